/- Walks, printed by program: each function returns what the partial function of the same name returns. Conditions: those of each theorem. -/
import Derived.Test.YtgdaanhiagoonaaGT
import Derived.Test.YtgdaanhiagoonaaGr11
set_option linter.unusedVariables false
set_option linter.unusedSimpArgs false
set_option maxRecDepth 4000
namespace Go.Proofs.Ytgdaanhiagoonaa
open Go Go.V Go.Proofs
def law13_sorts_L7 (p0_0 : List (Int × Int × Int × Int)) (p0_1 : Int) (p1 : List Int) (t9__s9_l5 : Int) (s : Int) : Option (Step Int (Unit ⊕ Unit)) :=
match s with
| t14__s14_l7 =>
(if (decide (t14__s14_l7 < ((p1).length : Int))) = true then
((r11_Kind p0_0 p0_1 t9__s9_l5 t14__s14_l7).bind fun x9 =>
(if (decide (x9 > 0)) = true then
((idx p1 t9__s9_l5).bind fun x11 =>
((idx p1 t14__s14_l7).bind fun x13 =>
((r11_Strict p0_0 p0_1 t9__s9_l5 t14__s14_l7).bind fun x15 =>
(if (decide ((IntKind.i64.wrap (x11 + x15)) > x13)) = true then
some (.done (.inl ()))
else
some (.next (IntKind.i64.wrap (t14__s14_l7 + 1)))))))
else
some (.next (IntKind.i64.wrap (t14__s14_l7 + 1)))))
else
some (.done (.inr ())))

def law13_sorts_L5 (p0_0 : List (Int × Int × Int × Int)) (p0_1 : Int) (p1 : List Int) (s : Int) : Option (Step Int (Unit ⊕ Unit)) :=
match s with
| t9__s9_l5 =>
(if (decide (t9__s9_l5 < ((p1).length : Int))) = true then
((loop (law13_sorts_L7 p0_0 p0_1 p1 t9__s9_l5) 0).bind fun d => match d with
| (.inl _) => some (.done (.inl ()))
| (.inr _) => some (.next (IntKind.i64.wrap (t9__s9_l5 + 1))))
else
some (.done (.inr ())))

def law13_sorts (p0_0 : List (Int × Int × Int × Int)) (p0_1 : Int) (p1 : List Int) : Option Bool :=
((loop (law13_sorts_L5 p0_0 p0_1 p1) 0).bind fun d => match d with
| (.inl _) => some false
| (.inr _) => some true)

theorem law13_sorts_w (a_p0_0 : Option Addr) (c_p0_0 : Nat) (p0_0 : List (Int × Int × Int × Int)) (p0_1 : Int) (a_p1 : Option Addr) (c_p1 : Nat) (p1 : List Int) (r : Bool) (w : World) (M : List Nat) (hms : MS w [M]) (hs_p0_0 : SlR (eProd (eInt .i64) (eProd (eInt .i64) (eProd (eInt .i64) (eInt .i64)))) w (fl [M]) a_p0_0 c_p0_0 p0_0) (hs_p1 : SlR (eInt .i64) w (fl [M]) a_p1 c_p1 p1) (h : law13_sorts p0_0 p0_1 p1 = some r) : CallVC Try.prog 21 [.agg #[.slice a_p0_0 (p0_0).length c_p0_0, .int .i64 p0_1], .slice a_p1 (p1).length c_p1] w fun v w' => v = .bool r ∧ Ev [] w w' := by
  refine calls_vc hmx Try.func21 (by kernel_rfl) rfl (rs := [.tmp 4]) rfl (by kernel_rfl) (args := [.agg #[.slice a_p0_0 (p0_0).length c_p0_0, .int .i64 p0_1], .slice a_p1 (p1).length c_p1]) rfl ?_
  have hev : Ev [] w w := Ev.refl _ _
  have hfr : FR w.heap.size [] := FR.nil _
  refine c_seq (c_plain ?_)
  refine x_box (xv := .agg #[.slice a_p0_0 (p0_0).length c_p0_0, .int .i64 p0_1]) rfl rfl rfl (fun b3 w3 hq3 hb3 he3 hz3 => ?_)
  replace hb3 : w3.heap[b3]? = some (.cells #[.slice a_p0_0 (p0_0).length c_p0_0, .int .i64 p0_1] 24 (0, 0)) := hb3
  refine ⟨.inl rfl, ?_⟩
  have hst := Stp.box (ls := [M]) he3 hq3
  replace hs_p0_0 := hs_p0_0.step hst
  replace hs_p1 := hs_p1.step hst
  replace hms := hms.box he3 hq3 hb3
  replace hfr := hfr.box hev.size hq3
  replace hev := hev.ext he3
  refine x_pure 1 [(4, .bool false)] _ _ _ (by kernel_rfl) ?_
  refine x_end rfl (k_then ?_)
  refine c_seq ?_
  refine c_seq (c_plain ?_)
  refine x_pure 1 [(7, .slice a_p1 (p1).length c_p1)] _ _ _ (by kernel_rfl) ?_
  refine x_len (vs := [.slice a_p1 (p1).length c_p1]) (.int .i64 ((p1).length : Int)) rfl rfl rfl (reads_len tsl27 _ _ _ _ _) ?_
  refine x_pure 1 [(9, .int .i64 0)] _ _ _ (by kernel_rfl) ?_
  refine x_end rfl (k_then ?_)
  refine c_block ?_
  obtain ⟨d5, hd5, h5⟩ := bind_some h
  obtain ⟨m5, hd5⟩ := loop_some hd5
  refine c_loop (loop_rule hmx (σ := Nat × Int) (fun s => match s with | (_, t9__s9_l5) => [(1, .slice a_p1 (p1).length c_p1), (2, .pointer (some ⟨b3, 0, none⟩)), (8, .int .i64 ((p1).length : Int)), (9, .int .i64 t9__s9_l5)]) (fun s w' => match s with | (m, t9__s9_l5) => loopN (law13_sorts_L5 p0_0 p0_1 p1) m t9__s9_l5 = some d5 ∧ Ev [] w w' ∧ MS w' [[b3], M] ∧ FR w.heap.size [[b3]] ∧ SlR (eInt .i64) w' (fl [[b3], M]) a_p1 c_p1 p1 ∧ SlR (eProd (eInt .i64) (eProd (eInt .i64) (eProd (eInt .i64) (eInt .i64)))) w' (fl [[b3], M]) a_p0_0 c_p0_0 p0_0 ∧ w'.heap[b3]? = some (.cells #[.slice a_p0_0 (p0_0).length c_p0_0, .int .i64 p0_1] 24 (0, 0))) (fun s => s.1) (m5, 0) ⟨rfl, rfl, rfl, rfl, trivial⟩ ⟨hd5, hev, hms, hfr, hs_p1, hs_p0_0, hb3⟩ ?_)
  rintro ⟨m5, t9__s9_l5⟩ J wl5 ⟨hn5, hev, hms, hfr, hs_p1, hs_p0_0, hb3⟩
  rcases m5 with _ | m5
  · exact (loopN_zero hn5).elim
  obtain ⟨t5, h, hn5⟩ := bind_some hn5
  refine c_seq (c_plain ?_)
  refine x_pure 1 [(10, .bool (decide (t9__s9_l5 < ((p1).length : Int))))] _ _ _ (by kernel_rfl) ?_
  refine x_end rfl (k_then ?_)
  refine c_norm [(1, .slice a_p1 (p1).length c_p1), (2, .pointer (some ⟨b3, 0, none⟩)), (8, .int .i64 ((p1).length : Int)), (9, .int .i64 t9__s9_l5), (10, .bool (decide (t9__s9_l5 < ((p1).length : Int))))] ⟨rfl, rfl, rfl, rfl, rfl, trivial⟩ (fun J => ?_)
  refine c_seq ?_
  refine c_cond (decide (t9__s9_l5 < ((p1).length : Int))) rfl (fun hb => ?_) (fun hb => ?_)
  · replace h := ite_t hb h
    refine c_skip ?_
    refine k_then ?_
    refine c_seq ?_
    refine c_block ?_
    refine c_seq (c_plain ?_)
    refine x_pure 2 [(11, .int .i64 t9__s9_l5), (5, .int .i64 t9__s9_l5)] _ _ _ (by kernel_rfl) ?_
    refine x_end rfl (k_then ?_)
    refine c_seq (c_plain ?_)
    refine x_pure 1 [(12, .slice a_p1 (p1).length c_p1)] _ _ _ (by kernel_rfl) ?_
    refine x_len (vs := [.slice a_p1 (p1).length c_p1]) (.int .i64 ((p1).length : Int)) rfl rfl rfl (reads_len tsl27 _ _ _ _ _) ?_
    refine x_pure 1 [(14, .int .i64 0)] _ _ _ (by kernel_rfl) ?_
    refine x_end rfl (k_then ?_)
    refine c_block ?_
    obtain ⟨d7, hd7, h7⟩ := bind_some h
    obtain ⟨m7, hd7⟩ := loop_some hd7
    refine c_loop (loop_rule hmx (σ := Nat × Int) (fun s => match s with | (_, t14__s14_l7) => [(1, .slice a_p1 (p1).length c_p1), (2, .pointer (some ⟨b3, 0, none⟩)), (5, .int .i64 t9__s9_l5), (8, .int .i64 ((p1).length : Int)), (9, .int .i64 t9__s9_l5), (13, .int .i64 ((p1).length : Int)), (14, .int .i64 t14__s14_l7)]) (fun s w' => match s with | (m, t14__s14_l7) => loopN (law13_sorts_L7 p0_0 p0_1 p1 t9__s9_l5) m t14__s14_l7 = some d7 ∧ Ev [] w w' ∧ MS w' [[b3], M] ∧ FR w.heap.size [[b3]] ∧ SlR (eInt .i64) w' (fl [[b3], M]) a_p1 c_p1 p1 ∧ SlR (eProd (eInt .i64) (eProd (eInt .i64) (eProd (eInt .i64) (eInt .i64)))) w' (fl [[b3], M]) a_p0_0 c_p0_0 p0_0 ∧ w'.heap[b3]? = some (.cells #[.slice a_p0_0 (p0_0).length c_p0_0, .int .i64 p0_1] 24 (0, 0))) (fun s => s.1) (m7, 0) ⟨rfl, rfl, rfl, rfl, rfl, rfl, rfl, trivial⟩ ⟨hd7, hev, hms, hfr, hs_p1, hs_p0_0, hb3⟩ ?_)
    rintro ⟨m7, t14__s14_l7⟩ J wl7 ⟨hn7, hev, hms, hfr, hs_p1, hs_p0_0, hb3⟩
    rcases m7 with _ | m7
    · exact (loopN_zero hn7).elim
    obtain ⟨t7, h, hn7⟩ := bind_some hn7
    refine c_seq (c_plain ?_)
    refine x_pure 1 [(15, .bool (decide (t14__s14_l7 < ((p1).length : Int))))] _ _ _ (by kernel_rfl) ?_
    refine x_end rfl (k_then ?_)
    refine c_norm [(1, .slice a_p1 (p1).length c_p1), (2, .pointer (some ⟨b3, 0, none⟩)), (5, .int .i64 t9__s9_l5), (8, .int .i64 ((p1).length : Int)), (9, .int .i64 t9__s9_l5), (13, .int .i64 ((p1).length : Int)), (14, .int .i64 t14__s14_l7), (15, .bool (decide (t14__s14_l7 < ((p1).length : Int))))] ⟨rfl, rfl, rfl, rfl, rfl, rfl, rfl, rfl, trivial⟩ (fun J => ?_)
    refine c_seq ?_
    refine c_cond (decide (t14__s14_l7 < ((p1).length : Int))) rfl (fun hb => ?_) (fun hb => ?_)
    · replace h := ite_t hb h
      refine c_skip ?_
      refine k_then ?_
      refine c_seq ?_
      refine c_block ?_
      refine c_seq (c_plain ?_)
      refine x_pure 2 [(16, .int .i64 t14__s14_l7), (6, .int .i64 t14__s14_l7)] _ _ _ (by kernel_rfl) ?_
      refine x_end rfl (k_then ?_)
      refine c_seq ?_
      refine c_drawn [] [(0, false), (1, false), (2, false), (3, false), (4, false), (5, false), (6, false), (7, false), (8, false), (9, false), (10, false), (11, false), (12, false), (15, false), (16, false), (17, false), (18, false), (13, false), (14, false), (19, false), (20, false)] _ (by kernel_rfl) rfl ?_
      have hst := Stp.ext (ls := [[b3], M]) (Ev.drew wl7)
      replace hs_p1 := hs_p1.step hst
      replace hb3 := (Ev.drew wl7).box hb3 nn
      replace hs_p0_0 := hs_p0_0.step hst
      replace hms := hms.ev (Ev.drew wl7)
      replace hev := hev.ext (Ev.drew wl7)
      refine x_load (xv := .pointer (some ⟨b3, 0, none⟩)) (.agg #[.slice a_p0_0 (p0_0).length c_p0_0, .int .i64 p0_1]) rfl rfl rfl (reads_boxagg 0 [.slice a_p0_0 (p0_0).length c_p0_0, .int .i64 p0_1] tagg24 hb3 nn rfl) ?_
      refine x_pure 2 [(18, .int .i64 t9__s9_l5), (19, .int .i64 t14__s14_l7)] _ _ _ (by kernel_rfl) ?_
      obtain ⟨x9, hx, h⟩ := bind_some h
      have hpk : MS (wl7).drew ([] ++ [[b3], M]) := hms.pick [some 0, some 1] _ rfl
      have hsb0 : ∀ x ∈ fl ([] ++ [[b3], M]), x ∈ fl [[b3], M] := pick_sub [some 0, some 1] _ rfl
      have hsb : ∀ x ∈ fl ([] ++ [(fl [[b3], M])]), x ∈ fl [[b3], M] := fun x hx => hsb0 x (fl_unfold x hx)
      have hcall := r11_Kind_w a_p0_0 c_p0_0 p0_0 p0_1 t9__s9_l5 t14__s14_l7 _ (wl7).drew (fl [[b3], M]) (MS.fold (P := []) hpk) (hs_p0_0.sub hsb) hx
      refine x_call 26 #[] #[] [.agg #[.slice a_p0_0 (p0_0).length c_p0_0, .int .i64 p0_1], .int .i64 t9__s9_l5, .int .i64 t14__s14_l7] _ rfl rfl rfl rfl hcall ?_
      rintro v w10 ⟨rfl, he10⟩
      clear hcall hx
      refine ⟨.inr he10, ?_⟩
      have hst := Stp.ext (ls := [[b3], M]) he10
      replace hs_p1 := hs_p1.step hst
      replace hb3 := he10.box hb3 nn
      replace hs_p0_0 := hs_p0_0.step hst
      replace hms := hms.ev he10
      replace hev := hev.ext he10
      clear hpk hsb hsb0
      refine x_pure 2 [(21, .bool (decide (x9 > 0))), (22, .bool (decide (x9 > 0)))] _ _ _ (by kernel_rfl) ?_
      refine x_split 22 (decide (x9 > 0)) rfl (fun hb => ?_) (fun hb => ?_)
      · replace h := ite_t hb h
        refine x_pure 2 [(23, .slice a_p1 (p1).length c_p1), (24, .int .i64 t9__s9_l5)] _ _ _ (by kernel_rfl) ?_
        obtain ⟨x11, hx11, h⟩ := bind_some h
        obtain ⟨ad11, cs11, hr11, hc11, hR⟩ := reads_index (Mo := []) tsl27 hs_p1 hx11
        obtain rfl := hR
        refine x_indexAddr (xv := .slice a_p1 (p1).length c_p1) (yv := .int .i64 t9__s9_l5) (.pointer (some ad11)) rfl rfl rfl rfl hr11 ?_
        refine x_load (xv := .pointer (some ad11)) (.int .i64 x11) rfl rfl rfl (reads_cell0 tcell3 hc11 (fun _ h => by cases h)) ?_
        refine x_load (xv := .pointer (some ⟨b3, 0, none⟩)) (.agg #[.slice a_p0_0 (p0_0).length c_p0_0, .int .i64 p0_1]) rfl rfl rfl (reads_boxagg 0 [.slice a_p0_0 (p0_0).length c_p0_0, .int .i64 p0_1] tagg24 hb3 nn rfl) ?_
        refine x_pure 4 [(28, .int .i64 t9__s9_l5), (29, .int .i64 t14__s14_l7), (32, .slice a_p1 (p1).length c_p1), (33, .int .i64 t14__s14_l7)] _ _ _ (by kernel_rfl) ?_
        obtain ⟨x13, hx13, h⟩ := bind_some h
        obtain ⟨ad13, cs13, hr13, hc13, hR⟩ := reads_index (Mo := []) tsl27 hs_p1 hx13
        obtain rfl := hR
        refine x_indexAddr (xv := .slice a_p1 (p1).length c_p1) (yv := .int .i64 t14__s14_l7) (.pointer (some ad13)) rfl rfl rfl rfl hr13 ?_
        refine x_load (xv := .pointer (some ad13)) (.int .i64 x13) rfl rfl rfl (reads_cell0 tcell3 hc13 (fun _ h => by cases h)) ?_
        obtain ⟨x15, hx, h⟩ := bind_some h
        have hpk : MS w10 ([] ++ [[b3], M]) := hms.pick [some 0, some 1] _ rfl
        have hsb0 : ∀ x ∈ fl ([] ++ [[b3], M]), x ∈ fl [[b3], M] := pick_sub [some 0, some 1] _ rfl
        have hsb : ∀ x ∈ fl ([] ++ [(fl [[b3], M])]), x ∈ fl [[b3], M] := fun x hx => hsb0 x (fl_unfold x hx)
        have hcall := r11_Strict_w a_p0_0 c_p0_0 p0_0 p0_1 t9__s9_l5 t14__s14_l7 _ w10 (fl [[b3], M]) (MS.fold (P := []) hpk) (hs_p0_0.sub hsb) hx
        refine x_call 27 #[] #[] [.agg #[.slice a_p0_0 (p0_0).length c_p0_0, .int .i64 p0_1], .int .i64 t9__s9_l5, .int .i64 t14__s14_l7] _ rfl rfl rfl rfl hcall ?_
        rintro v w16 ⟨rfl, he16⟩
        clear hcall hx
        refine ⟨.inr he16, ?_⟩
        have hst := Stp.ext (ls := [[b3], M]) he16
        replace hs_p1 := hs_p1.step hst
        replace hb3 := he16.box hb3 nn
        replace hs_p0_0 := hs_p0_0.step hst
        replace hc11 := hc11.step hst
        replace hc13 := hc13.step hst
        replace hms := hms.ev he16
        replace hev := hev.ext he16
        clear hpk hsb hsb0
        refine x_pure 3 [(31, .int .i64 (IntKind.i64.wrap (x11 + x15))), (36, .bool (decide ((IntKind.i64.wrap (x11 + x15)) > x13))), (37, .bool (decide ((IntKind.i64.wrap (x11 + x15)) > x13)))] _ _ _ (by kernel_rfl) ?_
        refine x_end rfl (k_then ?_)
        refine c_norm [(1, .slice a_p1 (p1).length c_p1), (2, .pointer (some ⟨b3, 0, none⟩)), (5, .int .i64 t9__s9_l5), (8, .int .i64 ((p1).length : Int)), (9, .int .i64 t9__s9_l5), (13, .int .i64 ((p1).length : Int)), (14, .int .i64 t14__s14_l7), (37, .bool (decide ((IntKind.i64.wrap (x11 + x15)) > x13)))] ⟨rfl, rfl, rfl, rfl, rfl, rfl, rfl, rfl, trivial⟩ (fun J => ?_)
        refine c_cond (decide ((IntKind.i64.wrap (x11 + x15)) > x13)) rfl (fun hb => ?_) (fun hb => ?_)
        · replace h := ite_t hb h
          refine c_seq (c_plain ?_)
          refine x_pure 1 [(4, .bool false)] _ _ _ (by kernel_rfl) ?_
          refine x_end rfl (k_then ?_)
          refine c_ret ?_
          refine k_block_ret ?_
          refine k_then_ret ?_
          have hx := some_inj h
          subst hx
          have hy := some_inj hn7
          subst hy
          replace h := h7
          refine k_then_ret ?_
          refine k_block_ret ?_
          refine k_block_ret ?_
          refine k_then_ret ?_
          have hx := some_inj h
          subst hx
          have hy := some_inj hn5
          subst hy
          replace h := h5
          refine k_then_ret ?_
          refine k_block_ret ?_
          refine k_then_ret ?_
          refine r_ret (r_vals [.bool false] ⟨rfl, trivial⟩ ?_)
          have hx := some_inj h
          subst hx
          have hmr : MS w16 [M] := hms.pick [some 1] _ rfl
          have hsu : ∀ x ∈ fl [M], x ∈ fl [[b3], M] := pick_sub [some 1] _ rfl
          exact ⟨rfl, hev⟩
        replace h := ite_f hb h
        refine c_skip ?_
        refine k_block ?_
        refine k_then ?_
        refine c_plain ?_
        refine x_pure 2 [(38, .int .i64 (IntKind.i64.wrap (t14__s14_l7 + 1))), (14, .int .i64 (IntKind.i64.wrap (t14__s14_l7 + 1)))] _ _ _ (by kernel_rfl) ?_
        refine x_end rfl ?_
        have hx := some_inj h
        subst hx
        exact k_then ⟨(m7, IntKind.i64.wrap (t14__s14_l7 + 1)), ⟨rfl, rfl, rfl, rfl, rfl, rfl, rfl, trivial⟩, ⟨hn7, hev, hms, hfr, hs_p1, hs_p0_0, hb3⟩, Nat.lt_succ_self _⟩
      replace h := ite_f hb h
      refine x_pure 15 [(23, undef), (24, undef), (25, undef), (26, undef), (27, undef), (28, undef), (29, undef), (32, undef), (33, undef), (34, undef), (35, undef), (30, undef), (31, undef), (36, undef), (37, .bool false)] _ _ _ (by kernel_rfl) ?_
      refine x_end rfl (k_then ?_)
      refine c_norm [(1, .slice a_p1 (p1).length c_p1), (2, .pointer (some ⟨b3, 0, none⟩)), (5, .int .i64 t9__s9_l5), (8, .int .i64 ((p1).length : Int)), (9, .int .i64 t9__s9_l5), (13, .int .i64 ((p1).length : Int)), (14, .int .i64 t14__s14_l7), (37, .bool false)] ⟨rfl, rfl, rfl, rfl, rfl, rfl, rfl, rfl, trivial⟩ (fun J => ?_)
      refine c_false rfl ?_
      refine c_skip ?_
      refine k_block ?_
      refine k_then ?_
      refine c_plain ?_
      refine x_pure 2 [(38, .int .i64 (IntKind.i64.wrap (t14__s14_l7 + 1))), (14, .int .i64 (IntKind.i64.wrap (t14__s14_l7 + 1)))] _ _ _ (by kernel_rfl) ?_
      refine x_end rfl ?_
      have hx := some_inj h
      subst hx
      exact k_then ⟨(m7, IntKind.i64.wrap (t14__s14_l7 + 1)), ⟨rfl, rfl, rfl, rfl, rfl, rfl, rfl, trivial⟩, ⟨hn7, hev, hms, hfr, hs_p1, hs_p0_0, hb3⟩, Nat.lt_succ_self _⟩
    replace h := ite_f hb h
    refine c_exit ?_
    refine k_then_exit ?_
    have hx := some_inj h
    subst hx
    have hy := some_inj hn7
    subst hy
    replace h := h7
    refine k_then_exit ?_
    refine k_block_in ?_
    refine k_block ?_
    refine k_then ?_
    refine c_norm [(1, .slice a_p1 (p1).length c_p1), (2, .pointer (some ⟨b3, 0, none⟩)), (8, .int .i64 ((p1).length : Int)), (9, .int .i64 t9__s9_l5)] ⟨rfl, rfl, rfl, rfl, trivial⟩ (fun J => ?_)
    refine c_plain ?_
    refine x_pure 2 [(39, .int .i64 (IntKind.i64.wrap (t9__s9_l5 + 1))), (9, .int .i64 (IntKind.i64.wrap (t9__s9_l5 + 1)))] _ _ _ (by kernel_rfl) ?_
    refine x_end rfl ?_
    have hx := some_inj h
    subst hx
    exact k_then ⟨(m5, IntKind.i64.wrap (t9__s9_l5 + 1)), ⟨rfl, rfl, rfl, rfl, trivial⟩, ⟨hn5, hev, hms, hfr, hs_p1, hs_p0_0, hb3⟩, Nat.lt_succ_self _⟩
  replace h := ite_f hb h
  refine c_exit ?_
  refine k_then_exit ?_
  have hx := some_inj h
  subst hx
  have hy := some_inj hn5
  subst hy
  replace h := h5
  refine k_then_exit ?_
  refine k_block_in ?_
  refine k_then ?_
  refine c_norm [] trivial (fun J => ?_)
  refine c_seq (c_plain ?_)
  refine x_pure 1 [(4, .bool true)] _ _ _ (by kernel_rfl) ?_
  refine x_end rfl (k_then ?_)
  refine c_ret ?_
  refine r_ret (r_vals [.bool true] ⟨rfl, trivial⟩ ?_)
  have hx := some_inj h
  subst hx
  have hmr : MS wl5 [M] := hms.pick [some 1] _ rfl
  have hsu : ∀ x ∈ fl [M], x ∈ fl [[b3], M] := pick_sub [some 1] _ rfl
  exact ⟨rfl, hev⟩
end Go.Proofs.Ytgdaanhiagoonaa
