/- Walks, printed by program: each function returns what the partial function of the same name returns. Conditions: those of each theorem. -/
import Derived.Test.YtjcikgeffhghkaaGT
set_option linter.unusedVariables false
set_option maxRecDepth 4000
namespace Go.Proofs.Ytjcikgeffhghkaa
open Go Go.V Go.Proofs
def gen_New (l_0 : List Int) : Option ((List Int) × Int) :=
some (l_0, 0)

theorem gen_New_w (a_l_0 : Option Addr) (c_l_0 : Nat) (l_0 : List Int) (r : ((List Int) × Int)) (w : World) (M : List Nat) (hms : MS w [M]) (hs_l_0 : SlR (eInt .i64) w (fl [M]) a_l_0 c_l_0 l_0) (h : gen_New l_0 = some r) : CallVC Try.prog 9 [.slice a_l_0 (l_0).length c_l_0] w fun v w' => ∃ (b0' : Nat), ∃ (a1' : Option Addr), ∃ (c1' : Nat), v = .pointer (some ⟨b0', 0, none⟩) ∧ Ev [] w w' ∧ MS w' [[b0'], M] ∧ FR w.heap.size [[b0']] ∧ w'.heap[b0']? = some (.cells #[.slice a1' (r.1).length c1', .int .i64 r.2] 41 (0, 0)) ∧ SlR (eInt .i64) w' (fl [[b0'], M]) a1' c1' r.1 := by
  refine calls_vc hmx Try.func9 (by kernel_rfl) rfl (rs := [.tmp 2]) rfl (by kernel_rfl) (args := [.slice a_l_0 (l_0).length c_l_0]) rfl ?_
  have hev : Ev [] w w := Ev.refl _ _
  have hfr : FR w.heap.size [] := FR.nil _
  refine c_seq ?_
  refine c_plain ?_
  refine x_pure 1 [(2, .pointer none)] _ _ _ (by kernel_rfl) ?_
  refine x_end rfl ?_
  refine k_then ?_
  refine c_norm [(0, .slice a_l_0 (l_0).length c_l_0)] ⟨rfl, trivial⟩ (fun J => ?_)
  refine c_seq ?_
  refine c_plain ?_
  refine x_pure 1 [(3, .slice a_l_0 (l_0).length c_l_0)] _ _ _ (by kernel_rfl) ?_
  refine x_build (vs := [(0, .slice a_l_0 (l_0).length c_l_0)]) (.agg #[.slice a_l_0 (l_0).length c_l_0, .int .i64 0]) rfl rfl rfl (fun _ _ => by kernel_rfl) ?_
  refine x_box (xv := .agg #[.slice a_l_0 (l_0).length c_l_0, .int .i64 0]) rfl rfl rfl (fun b2 w2 hq2 hb2 he2 _ => ?_)
  replace hb2 : w2.heap[b2]? = some (.cells #[.slice a_l_0 (l_0).length c_l_0, .int .i64 0] 41 (0, 0)) := hb2
  refine ⟨.inl rfl, ?_⟩
  have hst := Stp.box (ls := [M]) he2 hq2
  replace hs_l_0 := hs_l_0.step hst
  replace hms := hms.box he2 hq2 hb2
  replace hfr := hfr.box hev.size hq2
  replace hev := hev.ext he2
  refine x_pure 1 [(2, .pointer (some ⟨b2, 0, none⟩))] _ _ _ (by kernel_rfl) ?_
  refine x_end rfl ?_
  refine k_then ?_
  refine c_norm [(2, .pointer (some ⟨b2, 0, none⟩))] ⟨rfl, trivial⟩ (fun J => ?_)
  refine c_ret ?_
  refine r_ret (r_one (.pointer (some ⟨b2, 0, none⟩)) rfl ?_)
  have hx := some_inj h
  subst hx
  have hmr : MS w2 [[b2], M] := hms.pick [some 0, some 1] _ rfl
  have hfe : FR w.heap.size [[b2]] := hfr.pick [some 0] _ rfl
  have hsu : ∀ x ∈ fl [[b2], M], x ∈ fl [[b2], M] := pick_sub [some 0, some 1] _ rfl
  exact ⟨b2, a_l_0, c_l_0, rfl, hev, hmr, hfe, hb2, hs_l_0.sub hsu⟩
def gen_Maker_Next (k_0_l : List Int) (k_0_n : Int) (n_1 : Int) : Option (Int × Int) :=
(if (decide (((k_0_l).length : Int) > 0)) = true then
(if ((k_0_l).length : Int) ≠ 0 then
((idx k_0_l (Int.tmod k_0_n ((k_0_l).length : Int))).bind fun x3 =>
(if ((k_0_l).length : Int) ≠ 0 then
(if n_1 ≠ 0 then
(if (decide ((Int.tmod (IntKind.i64.wrap (x3 + (IntKind.i64.wrap ((IntKind.i64.wrap (Int.tdiv k_0_n ((k_0_l).length : Int))) * 7919)))) n_1) < 0)) = true then
some (IntKind.i64.wrap ((Int.tmod (IntKind.i64.wrap (x3 + (IntKind.i64.wrap ((IntKind.i64.wrap (Int.tdiv k_0_n ((k_0_l).length : Int))) * 7919)))) n_1) + n_1), IntKind.i64.wrap (k_0_n + 1))
else
some (Int.tmod (IntKind.i64.wrap (x3 + (IntKind.i64.wrap ((IntKind.i64.wrap (Int.tdiv k_0_n ((k_0_l).length : Int))) * 7919)))) n_1, IntKind.i64.wrap (k_0_n + 1)))
else none)
else none))
else none)
else
(if n_1 ≠ 0 then
(if (decide ((Int.tmod 0 n_1) < 0)) = true then
some (IntKind.i64.wrap ((Int.tmod 0 n_1) + n_1), IntKind.i64.wrap (k_0_n + 1))
else
some (Int.tmod 0 n_1, IntKind.i64.wrap (k_0_n + 1)))
else none))

theorem gen_Maker_Next_w (b_k_0 : Nat) (a_k_0_l : Option Addr) (c_k_0_l : Nat) (k_0_l : List Int) (k_0_n : Int) (n_1 : Int) (r : Int × Int) (w : World) (M : List Nat) (hms : MS w [[b_k_0], M]) (hs_k_0_l : SlR (eInt .i64) w (fl [[b_k_0], M]) a_k_0_l c_k_0_l k_0_l) (hb_k_0 : w.heap[b_k_0]? = some (.cells #[.slice a_k_0_l (k_0_l).length c_k_0_l, .int .i64 k_0_n] 41 (0, 0))) (h : gen_Maker_Next k_0_l k_0_n n_1 = some r) : CallVC Try.prog 11 [.pointer (some ⟨b_k_0, 0, none⟩), .int .i64 n_1] w fun v w' => v = .int .i64 r.1 ∧ Ev [b_k_0] w w' ∧ w'.heap[b_k_0]? = some (.cells #[.slice a_k_0_l (k_0_l).length c_k_0_l, .int .i64 r.2] 41 (0, 0)) := by
  refine calls_vc hmx Try.func11 (by kernel_rfl) rfl (rs := [.tmp 4]) rfl (by kernel_rfl) (args := [.pointer (some ⟨b_k_0, 0, none⟩), .int .i64 n_1]) rfl ?_
  have hev : Ev [b_k_0] w w := Ev.refl _ _
  have hfr : FR w.heap.size [] := FR.nil _
  refine c_seq ?_
  refine c_plain ?_
  refine x_pure 1 [(4, .int .i64 0)] _ _ _ (by kernel_rfl) ?_
  refine x_end rfl ?_
  refine k_then ?_
  refine c_norm [(0, .pointer (some ⟨b_k_0, 0, none⟩)), (1, .int .i64 n_1)] ⟨rfl, rfl, trivial⟩ (fun J => ?_)
  refine c_seq ?_
  refine c_plain ?_
  refine x_pure 1 [(5, .int .i64 0)] _ _ _ (by kernel_rfl) ?_
  refine x_end rfl ?_
  refine k_then ?_
  refine c_norm [(0, .pointer (some ⟨b_k_0, 0, none⟩)), (1, .int .i64 n_1), (5, .int .i64 0)] ⟨rfl, rfl, rfl, trivial⟩ (fun J => ?_)
  refine c_seq ?_
  refine c_seq ?_
  refine c_plain ?_
  refine x_pure 2 [(6, .pointer (some ⟨b_k_0, 0, none⟩)), (7, .pointer (some ⟨b_k_0, 0, none⟩))] _ _ _ (by kernel_rfl) ?_
  refine x_fieldAddr (xv := .pointer (some ⟨b_k_0, 0, none⟩)) (.pointer (some ⟨b_k_0, 0, none⟩)) rfl rfl rfl (reads_field tfld41_0 _ _) ?_
  refine x_load (xv := .pointer (some ⟨b_k_0, 0, none⟩)) (.slice a_k_0_l (k_0_l).length c_k_0_l) rfl rfl rfl (reads_box tcell22 hb_k_0 (fun h => by cases h) 0 _ rfl) ?_
  refine x_len (vs := [.slice a_k_0_l (k_0_l).length c_k_0_l]) (.int .i64 ((k_0_l).length : Int)) rfl rfl rfl (reads_len tsl22 _ _ _ _ _) ?_
  refine x_pure 1 [(11, .bool (decide (((k_0_l).length : Int) > 0)))] _ _ _ (by kernel_rfl) ?_
  refine x_end rfl ?_
  refine k_then ?_
  refine c_norm [(0, .pointer (some ⟨b_k_0, 0, none⟩)), (1, .int .i64 n_1), (5, .int .i64 0), (11, .bool (decide (((k_0_l).length : Int) > 0)))] ⟨rfl, rfl, rfl, rfl, trivial⟩ (fun J => ?_)
  refine c_cond (decide (((k_0_l).length : Int) > 0)) rfl (fun hb => ?_) (fun hb => ?_)
  · replace h := ite_t hb h
    refine c_drawn [] [(0, false), (1, false), (2, false), (3, false), (4, false), (5, false), (6, false), (7, false), (8, false), (9, false), (10, false), (11, false), (12, false), (13, false), (14, false), (15, false), (16, false), (17, false), (18, false), (19, false), (20, false), (21, false), (22, false), (23, false), (24, false), (25, false), (26, false), (27, false), (28, false)] _ (by kernel_rfl) rfl ?_
    have hst := Stp.ext (ls := [[b_k_0], M]) (Ev.drew w)
    replace hs_k_0_l := hs_k_0_l.step hst
    replace hb_k_0 := (Ev.drew w).box hb_k_0 (fun h => by cases h)
    replace hms := hms.ev (Ev.drew w)
    replace hev := hev.ext (Ev.drew w)
    refine x_pure 2 [(12, .pointer (some ⟨b_k_0, 0, none⟩)), (13, .pointer (some ⟨b_k_0, 0, none⟩))] _ _ _ (by kernel_rfl) ?_
    refine x_fieldAddr (xv := .pointer (some ⟨b_k_0, 0, none⟩)) (.pointer (some ⟨b_k_0, 0, none⟩)) rfl rfl rfl (reads_field tfld41_0 _ _) ?_
    refine x_load (xv := .pointer (some ⟨b_k_0, 0, none⟩)) (.slice a_k_0_l (k_0_l).length c_k_0_l) rfl rfl rfl (reads_box tcell22 hb_k_0 (fun h => by cases h) 0 _ rfl) ?_
    refine x_pure 2 [(16, .pointer (some ⟨b_k_0, 0, none⟩)), (17, .pointer (some ⟨b_k_0, 0, none⟩))] _ _ _ (by kernel_rfl) ?_
    refine x_fieldAddr (xv := .pointer (some ⟨b_k_0, 0, none⟩)) (.pointer (some ⟨b_k_0, 1, none⟩)) rfl rfl rfl (reads_field tfld41_1 _ _) ?_
    refine x_load (xv := .pointer (some ⟨b_k_0, 1, none⟩)) (.int .i64 k_0_n) rfl rfl rfl (reads_box tcell3 hb_k_0 (fun h => by cases h) 1 _ rfl) ?_
    refine x_pure 2 [(20, .pointer (some ⟨b_k_0, 0, none⟩)), (21, .pointer (some ⟨b_k_0, 0, none⟩))] _ _ _ (by kernel_rfl) ?_
    refine x_fieldAddr (xv := .pointer (some ⟨b_k_0, 0, none⟩)) (.pointer (some ⟨b_k_0, 0, none⟩)) rfl rfl rfl (reads_field tfld41_0 _ _) ?_
    refine x_load (xv := .pointer (some ⟨b_k_0, 0, none⟩)) (.slice a_k_0_l (k_0_l).length c_k_0_l) rfl rfl rfl (reads_box tcell22 hb_k_0 (fun h => by cases h) 0 _ rfl) ?_
    refine x_len (vs := [.slice a_k_0_l (k_0_l).length c_k_0_l]) (.int .i64 ((k_0_l).length : Int)) rfl rfl rfl (reads_len tsl22 _ _ _ _ _) ?_
    refine x_binop (.int .i64 (Int.tmod k_0_n ((k_0_l).length : Int))) (.int .i64 k_0_n) (.int .i64 ((k_0_l).length : Int)) rfl rfl rfl rfl (vb_rem (guard_l h)) ?_
    replace h := guard_r h
    obtain ⟨x3, hx3, h⟩ := bind_some h
    obtain ⟨ad3, cs3, hr3, hc3, hR⟩ := reads_index (Mo := []) tsl22 hs_k_0_l hx3
    obtain rfl := hR
    refine x_indexAddr (xv := .slice a_k_0_l (k_0_l).length c_k_0_l) (yv := .int .i64 (Int.tmod k_0_n ((k_0_l).length : Int))) (.pointer (some ad3)) rfl rfl rfl rfl hr3 ?_
    refine x_load (xv := .pointer (some ad3)) (.int .i64 x3) rfl rfl rfl (reads_cell0 tcell3 hc3 (fun _ h => by cases h)) ?_
    refine x_pure 2 [(28, .pointer (some ⟨b_k_0, 0, none⟩)), (29, .pointer (some ⟨b_k_0, 0, none⟩))] _ _ _ (by kernel_rfl) ?_
    refine x_fieldAddr (xv := .pointer (some ⟨b_k_0, 0, none⟩)) (.pointer (some ⟨b_k_0, 1, none⟩)) rfl rfl rfl (reads_field tfld41_1 _ _) ?_
    refine x_load (xv := .pointer (some ⟨b_k_0, 1, none⟩)) (.int .i64 k_0_n) rfl rfl rfl (reads_box tcell3 hb_k_0 (fun h => by cases h) 1 _ rfl) ?_
    refine x_pure 2 [(32, .pointer (some ⟨b_k_0, 0, none⟩)), (33, .pointer (some ⟨b_k_0, 0, none⟩))] _ _ _ (by kernel_rfl) ?_
    refine x_fieldAddr (xv := .pointer (some ⟨b_k_0, 0, none⟩)) (.pointer (some ⟨b_k_0, 0, none⟩)) rfl rfl rfl (reads_field tfld41_0 _ _) ?_
    refine x_load (xv := .pointer (some ⟨b_k_0, 0, none⟩)) (.slice a_k_0_l (k_0_l).length c_k_0_l) rfl rfl rfl (reads_box tcell22 hb_k_0 (fun h => by cases h) 0 _ rfl) ?_
    refine x_len (vs := [.slice a_k_0_l (k_0_l).length c_k_0_l]) (.int .i64 ((k_0_l).length : Int)) rfl rfl rfl (reads_len tsl22 _ _ _ _ _) ?_
    refine x_binop (.int .i64 (IntKind.i64.wrap (Int.tdiv k_0_n ((k_0_l).length : Int)))) (.int .i64 k_0_n) (.int .i64 ((k_0_l).length : Int)) rfl rfl rfl rfl (vb_quo (guard_l h)) ?_
    replace h := guard_r h
    refine x_pure 3 [(38, .int .i64 (IntKind.i64.wrap ((IntKind.i64.wrap (Int.tdiv k_0_n ((k_0_l).length : Int))) * 7919))), (39, .int .i64 (IntKind.i64.wrap (x3 + (IntKind.i64.wrap ((IntKind.i64.wrap (Int.tdiv k_0_n ((k_0_l).length : Int))) * 7919))))), (5, .int .i64 (IntKind.i64.wrap (x3 + (IntKind.i64.wrap ((IntKind.i64.wrap (Int.tdiv k_0_n ((k_0_l).length : Int))) * 7919)))))] _ _ _ (by kernel_rfl) ?_
    refine x_end rfl ?_
    refine k_then ?_
    refine c_norm [(0, .pointer (some ⟨b_k_0, 0, none⟩)), (1, .int .i64 n_1), (5, .int .i64 (IntKind.i64.wrap (x3 + (IntKind.i64.wrap ((IntKind.i64.wrap (Int.tdiv k_0_n ((k_0_l).length : Int))) * 7919)))))] ⟨rfl, rfl, rfl, trivial⟩ (fun J => ?_)
    refine c_seq ?_
    refine c_plain ?_
    refine x_pure 2 [(40, .pointer (some ⟨b_k_0, 0, none⟩)), (41, .pointer (some ⟨b_k_0, 0, none⟩))] _ _ _ (by kernel_rfl) ?_
    refine x_fieldAddr (xv := .pointer (some ⟨b_k_0, 0, none⟩)) (.pointer (some ⟨b_k_0, 1, none⟩)) rfl rfl rfl (reads_field tfld41_1 _ _) ?_
    refine x_load (xv := .pointer (some ⟨b_k_0, 1, none⟩)) (.int .i64 k_0_n) rfl rfl rfl (reads_box tcell3 hb_k_0 (fun h => by cases h) 1 _ rfl) ?_
    refine x_pure 2 [(44, .int .i64 (IntKind.i64.wrap (k_0_n + 1))), (45, .pointer (some ⟨b_k_0, 0, none⟩))] _ _ _ (by kernel_rfl) ?_
    refine x_fieldAddr (xv := .pointer (some ⟨b_k_0, 0, none⟩)) (.pointer (some ⟨b_k_0, 1, none⟩)) rfl rfl rfl (reads_field tfld41_1 _ _) ?_
    obtain ⟨w5, hr5, hb5, he5⟩ := store_box 1 (.int .i64 (IntKind.i64.wrap (k_0_n + 1))) #[.slice a_k_0_l (k_0_l).length c_k_0_l, .int .i64 (IntKind.i64.wrap (k_0_n + 1))] tcell3 hb_k_0 rfl rfl rfl
    refine x_store w5 (xv := .pointer (some ⟨b_k_0, 1, none⟩)) (yv := .int .i64 (IntKind.i64.wrap (k_0_n + 1))) rfl rfl rfl rfl hr5 ?_
    refine ⟨.inl rfl, ?_⟩
    have hst := Stp.ev' (ls := [[b_k_0], M]) he5 (mem_flat 0 rfl)
    replace hs_k_0_l := hs_k_0_l.step hst
    replace hms := hms.ev he5
    replace hev := hev.then he5 (fun b hb => .inl (by simpa using hb))
    replace hb_k_0 := hb5
    refine x_end rfl ?_
    refine k_then ?_
    refine c_norm [(1, .int .i64 n_1), (5, .int .i64 (IntKind.i64.wrap (x3 + (IntKind.i64.wrap ((IntKind.i64.wrap (Int.tdiv k_0_n ((k_0_l).length : Int))) * 7919)))))] ⟨rfl, rfl, trivial⟩ (fun J => ?_)
    refine c_seq ?_
    refine c_plain ?_
    refine x_pure 2 [(47, .int .i64 (IntKind.i64.wrap (x3 + (IntKind.i64.wrap ((IntKind.i64.wrap (Int.tdiv k_0_n ((k_0_l).length : Int))) * 7919))))), (48, .int .i64 n_1)] _ _ _ (by kernel_rfl) ?_
    refine x_binop (.int .i64 (Int.tmod (IntKind.i64.wrap (x3 + (IntKind.i64.wrap ((IntKind.i64.wrap (Int.tdiv k_0_n ((k_0_l).length : Int))) * 7919)))) n_1)) (.int .i64 (IntKind.i64.wrap (x3 + (IntKind.i64.wrap ((IntKind.i64.wrap (Int.tdiv k_0_n ((k_0_l).length : Int))) * 7919))))) (.int .i64 n_1) rfl rfl rfl rfl (vb_rem (guard_l h)) ?_
    replace h := guard_r h
    refine x_pure 1 [(5, .int .i64 (Int.tmod (IntKind.i64.wrap (x3 + (IntKind.i64.wrap ((IntKind.i64.wrap (Int.tdiv k_0_n ((k_0_l).length : Int))) * 7919)))) n_1))] _ _ _ (by kernel_rfl) ?_
    refine x_end rfl ?_
    refine k_then ?_
    refine c_norm [(1, .int .i64 n_1), (5, .int .i64 (Int.tmod (IntKind.i64.wrap (x3 + (IntKind.i64.wrap ((IntKind.i64.wrap (Int.tdiv k_0_n ((k_0_l).length : Int))) * 7919)))) n_1))] ⟨rfl, rfl, trivial⟩ (fun J => ?_)
    refine c_seq ?_
    refine c_seq ?_
    refine c_plain ?_
    refine x_pure 2 [(50, .int .i64 (Int.tmod (IntKind.i64.wrap (x3 + (IntKind.i64.wrap ((IntKind.i64.wrap (Int.tdiv k_0_n ((k_0_l).length : Int))) * 7919)))) n_1)), (51, .bool (decide ((Int.tmod (IntKind.i64.wrap (x3 + (IntKind.i64.wrap ((IntKind.i64.wrap (Int.tdiv k_0_n ((k_0_l).length : Int))) * 7919)))) n_1) < 0)))] _ _ _ (by kernel_rfl) ?_
    refine x_end rfl ?_
    refine k_then ?_
    refine c_norm [(1, .int .i64 n_1), (5, .int .i64 (Int.tmod (IntKind.i64.wrap (x3 + (IntKind.i64.wrap ((IntKind.i64.wrap (Int.tdiv k_0_n ((k_0_l).length : Int))) * 7919)))) n_1)), (51, .bool (decide ((Int.tmod (IntKind.i64.wrap (x3 + (IntKind.i64.wrap ((IntKind.i64.wrap (Int.tdiv k_0_n ((k_0_l).length : Int))) * 7919)))) n_1) < 0)))] ⟨rfl, rfl, rfl, trivial⟩ (fun J => ?_)
    refine c_cond (decide ((Int.tmod (IntKind.i64.wrap (x3 + (IntKind.i64.wrap ((IntKind.i64.wrap (Int.tdiv k_0_n ((k_0_l).length : Int))) * 7919)))) n_1) < 0)) rfl (fun hb => ?_) (fun hb => ?_)
    · replace h := ite_t hb h
      refine c_plain ?_
      refine x_pure 4 [(52, .int .i64 (Int.tmod (IntKind.i64.wrap (x3 + (IntKind.i64.wrap ((IntKind.i64.wrap (Int.tdiv k_0_n ((k_0_l).length : Int))) * 7919)))) n_1)), (53, .int .i64 n_1), (54, .int .i64 (IntKind.i64.wrap ((Int.tmod (IntKind.i64.wrap (x3 + (IntKind.i64.wrap ((IntKind.i64.wrap (Int.tdiv k_0_n ((k_0_l).length : Int))) * 7919)))) n_1) + n_1))), (5, .int .i64 (IntKind.i64.wrap ((Int.tmod (IntKind.i64.wrap (x3 + (IntKind.i64.wrap ((IntKind.i64.wrap (Int.tdiv k_0_n ((k_0_l).length : Int))) * 7919)))) n_1) + n_1)))] _ _ _ (by kernel_rfl) ?_
      refine x_end rfl ?_
      refine k_then ?_
      refine c_norm [(5, .int .i64 (IntKind.i64.wrap ((Int.tmod (IntKind.i64.wrap (x3 + (IntKind.i64.wrap ((IntKind.i64.wrap (Int.tdiv k_0_n ((k_0_l).length : Int))) * 7919)))) n_1) + n_1)))] ⟨rfl, trivial⟩ (fun J => ?_)
      refine c_seq ?_
      refine c_plain ?_
      refine x_pure 2 [(55, .int .i64 (IntKind.i64.wrap ((Int.tmod (IntKind.i64.wrap (x3 + (IntKind.i64.wrap ((IntKind.i64.wrap (Int.tdiv k_0_n ((k_0_l).length : Int))) * 7919)))) n_1) + n_1))), (4, .int .i64 (IntKind.i64.wrap ((Int.tmod (IntKind.i64.wrap (x3 + (IntKind.i64.wrap ((IntKind.i64.wrap (Int.tdiv k_0_n ((k_0_l).length : Int))) * 7919)))) n_1) + n_1)))] _ _ _ (by kernel_rfl) ?_
      refine x_end rfl ?_
      refine k_then ?_
      refine c_norm [(4, .int .i64 (IntKind.i64.wrap ((Int.tmod (IntKind.i64.wrap (x3 + (IntKind.i64.wrap ((IntKind.i64.wrap (Int.tdiv k_0_n ((k_0_l).length : Int))) * 7919)))) n_1) + n_1)))] ⟨rfl, trivial⟩ (fun J => ?_)
      refine c_ret ?_
      refine r_ret (r_one (.int .i64 (IntKind.i64.wrap ((Int.tmod (IntKind.i64.wrap (x3 + (IntKind.i64.wrap ((IntKind.i64.wrap (Int.tdiv k_0_n ((k_0_l).length : Int))) * 7919)))) n_1) + n_1))) rfl ?_)
      have hx := some_inj h
      subst hx
      have hsu : ∀ x ∈ fl [[b_k_0], M], x ∈ fl [[b_k_0], M] := fl_right (loc := []) (par := [[b_k_0], M])
      exact ⟨rfl, hev, hb_k_0⟩
    · replace h := ite_f hb h
      refine c_skip ?_
      refine k_then ?_
      refine c_norm [(5, .int .i64 (Int.tmod (IntKind.i64.wrap (x3 + (IntKind.i64.wrap ((IntKind.i64.wrap (Int.tdiv k_0_n ((k_0_l).length : Int))) * 7919)))) n_1))] ⟨rfl, trivial⟩ (fun J => ?_)
      refine c_seq ?_
      refine c_plain ?_
      refine x_pure 2 [(55, .int .i64 (Int.tmod (IntKind.i64.wrap (x3 + (IntKind.i64.wrap ((IntKind.i64.wrap (Int.tdiv k_0_n ((k_0_l).length : Int))) * 7919)))) n_1)), (4, .int .i64 (Int.tmod (IntKind.i64.wrap (x3 + (IntKind.i64.wrap ((IntKind.i64.wrap (Int.tdiv k_0_n ((k_0_l).length : Int))) * 7919)))) n_1))] _ _ _ (by kernel_rfl) ?_
      refine x_end rfl ?_
      refine k_then ?_
      refine c_norm [(4, .int .i64 (Int.tmod (IntKind.i64.wrap (x3 + (IntKind.i64.wrap ((IntKind.i64.wrap (Int.tdiv k_0_n ((k_0_l).length : Int))) * 7919)))) n_1))] ⟨rfl, trivial⟩ (fun J => ?_)
      refine c_ret ?_
      refine r_ret (r_one (.int .i64 (Int.tmod (IntKind.i64.wrap (x3 + (IntKind.i64.wrap ((IntKind.i64.wrap (Int.tdiv k_0_n ((k_0_l).length : Int))) * 7919)))) n_1)) rfl ?_)
      have hx := some_inj h
      subst hx
      have hsu : ∀ x ∈ fl [[b_k_0], M], x ∈ fl [[b_k_0], M] := fl_right (loc := []) (par := [[b_k_0], M])
      exact ⟨rfl, hev, hb_k_0⟩
  · replace h := ite_f hb h
    refine c_skip ?_
    refine k_then ?_
    refine c_norm [(0, .pointer (some ⟨b_k_0, 0, none⟩)), (1, .int .i64 n_1), (5, .int .i64 0)] ⟨rfl, rfl, rfl, trivial⟩ (fun J => ?_)
    refine c_seq ?_
    refine c_plain ?_
    refine x_pure 2 [(40, .pointer (some ⟨b_k_0, 0, none⟩)), (41, .pointer (some ⟨b_k_0, 0, none⟩))] _ _ _ (by kernel_rfl) ?_
    refine x_fieldAddr (xv := .pointer (some ⟨b_k_0, 0, none⟩)) (.pointer (some ⟨b_k_0, 1, none⟩)) rfl rfl rfl (reads_field tfld41_1 _ _) ?_
    refine x_load (xv := .pointer (some ⟨b_k_0, 1, none⟩)) (.int .i64 k_0_n) rfl rfl rfl (reads_box tcell3 hb_k_0 (fun h => by cases h) 1 _ rfl) ?_
    refine x_pure 2 [(44, .int .i64 (IntKind.i64.wrap (k_0_n + 1))), (45, .pointer (some ⟨b_k_0, 0, none⟩))] _ _ _ (by kernel_rfl) ?_
    refine x_fieldAddr (xv := .pointer (some ⟨b_k_0, 0, none⟩)) (.pointer (some ⟨b_k_0, 1, none⟩)) rfl rfl rfl (reads_field tfld41_1 _ _) ?_
    obtain ⟨w6, hr6, hb6, he6⟩ := store_box 1 (.int .i64 (IntKind.i64.wrap (k_0_n + 1))) #[.slice a_k_0_l (k_0_l).length c_k_0_l, .int .i64 (IntKind.i64.wrap (k_0_n + 1))] tcell3 hb_k_0 rfl rfl rfl
    refine x_store w6 (xv := .pointer (some ⟨b_k_0, 1, none⟩)) (yv := .int .i64 (IntKind.i64.wrap (k_0_n + 1))) rfl rfl rfl rfl hr6 ?_
    refine ⟨.inl rfl, ?_⟩
    have hst := Stp.ev' (ls := [[b_k_0], M]) he6 (mem_flat 0 rfl)
    replace hs_k_0_l := hs_k_0_l.step hst
    replace hms := hms.ev he6
    replace hev := hev.then he6 (fun b hb => .inl (by simpa using hb))
    replace hb_k_0 := hb6
    refine x_end rfl ?_
    refine k_then ?_
    refine c_norm [(1, .int .i64 n_1), (5, .int .i64 0)] ⟨rfl, rfl, trivial⟩ (fun J => ?_)
    refine c_seq ?_
    refine c_plain ?_
    refine x_pure 2 [(47, .int .i64 0), (48, .int .i64 n_1)] _ _ _ (by kernel_rfl) ?_
    refine x_binop (.int .i64 (Int.tmod 0 n_1)) (.int .i64 0) (.int .i64 n_1) rfl rfl rfl rfl (vb_rem (guard_l h)) ?_
    replace h := guard_r h
    refine x_pure 1 [(5, .int .i64 (Int.tmod 0 n_1))] _ _ _ (by kernel_rfl) ?_
    refine x_end rfl ?_
    refine k_then ?_
    refine c_norm [(1, .int .i64 n_1), (5, .int .i64 (Int.tmod 0 n_1))] ⟨rfl, rfl, trivial⟩ (fun J => ?_)
    refine c_seq ?_
    refine c_seq ?_
    refine c_plain ?_
    refine x_pure 2 [(50, .int .i64 (Int.tmod 0 n_1)), (51, .bool (decide ((Int.tmod 0 n_1) < 0)))] _ _ _ (by kernel_rfl) ?_
    refine x_end rfl ?_
    refine k_then ?_
    refine c_norm [(1, .int .i64 n_1), (5, .int .i64 (Int.tmod 0 n_1)), (51, .bool (decide ((Int.tmod 0 n_1) < 0)))] ⟨rfl, rfl, rfl, trivial⟩ (fun J => ?_)
    refine c_cond (decide ((Int.tmod 0 n_1) < 0)) rfl (fun hb => ?_) (fun hb => ?_)
    · replace h := ite_t hb h
      refine c_plain ?_
      refine x_pure 4 [(52, .int .i64 (Int.tmod 0 n_1)), (53, .int .i64 n_1), (54, .int .i64 (IntKind.i64.wrap ((Int.tmod 0 n_1) + n_1))), (5, .int .i64 (IntKind.i64.wrap ((Int.tmod 0 n_1) + n_1)))] _ _ _ (by kernel_rfl) ?_
      refine x_end rfl ?_
      refine k_then ?_
      refine c_norm [(5, .int .i64 (IntKind.i64.wrap ((Int.tmod 0 n_1) + n_1)))] ⟨rfl, trivial⟩ (fun J => ?_)
      refine c_seq ?_
      refine c_plain ?_
      refine x_pure 2 [(55, .int .i64 (IntKind.i64.wrap ((Int.tmod 0 n_1) + n_1))), (4, .int .i64 (IntKind.i64.wrap ((Int.tmod 0 n_1) + n_1)))] _ _ _ (by kernel_rfl) ?_
      refine x_end rfl ?_
      refine k_then ?_
      refine c_norm [(4, .int .i64 (IntKind.i64.wrap ((Int.tmod 0 n_1) + n_1)))] ⟨rfl, trivial⟩ (fun J => ?_)
      refine c_ret ?_
      refine r_ret (r_one (.int .i64 (IntKind.i64.wrap ((Int.tmod 0 n_1) + n_1))) rfl ?_)
      have hx := some_inj h
      subst hx
      have hsu : ∀ x ∈ fl [[b_k_0], M], x ∈ fl [[b_k_0], M] := fl_right (loc := []) (par := [[b_k_0], M])
      exact ⟨rfl, hev, hb_k_0⟩
    · replace h := ite_f hb h
      refine c_skip ?_
      refine k_then ?_
      refine c_norm [(5, .int .i64 (Int.tmod 0 n_1))] ⟨rfl, trivial⟩ (fun J => ?_)
      refine c_seq ?_
      refine c_plain ?_
      refine x_pure 2 [(55, .int .i64 (Int.tmod 0 n_1)), (4, .int .i64 (Int.tmod 0 n_1))] _ _ _ (by kernel_rfl) ?_
      refine x_end rfl ?_
      refine k_then ?_
      refine c_norm [(4, .int .i64 (Int.tmod 0 n_1))] ⟨rfl, trivial⟩ (fun J => ?_)
      refine c_ret ?_
      refine r_ret (r_one (.int .i64 (Int.tmod 0 n_1)) rfl ?_)
      have hx := some_inj h
      subst hx
      have hsu : ∀ x ∈ fl [[b_k_0], M], x ∈ fl [[b_k_0], M] := fl_right (loc := []) (par := [[b_k_0], M])
      exact ⟨rfl, hev, hb_k_0⟩
def gen_Maker_Pick (k_0_l : List Int) (k_0_n : Int) (l_1 : List Int) : Option (Int × Int) :=
((gen_Maker_Next k_0_l k_0_n ((l_1).length : Int)).bind fun x4 =>
((idx l_1 x4.1).bind fun x6 =>
some (x6, x4.2)))

theorem gen_Maker_Pick_w (b_k_0 : Nat) (a_k_0_l : Option Addr) (c_k_0_l : Nat) (k_0_l : List Int) (k_0_n : Int) (a_l_1 : Option Addr) (c_l_1 : Nat) (l_1 : List Int) (r : Int × Int) (w : World) (M : List Nat) (hms : MS w [[b_k_0], M]) (hs_k_0_l : SlR (eInt .i64) w (fl [[b_k_0], M]) a_k_0_l c_k_0_l k_0_l) (hb_k_0 : w.heap[b_k_0]? = some (.cells #[.slice a_k_0_l (k_0_l).length c_k_0_l, .int .i64 k_0_n] 41 (0, 0))) (hs_l_1 : SlR (eInt .i64) w (fl [[b_k_0], M]) a_l_1 c_l_1 l_1) (h : gen_Maker_Pick k_0_l k_0_n l_1 = some r) : CallVC Try.prog 20 [.pointer (some ⟨b_k_0, 0, none⟩), .slice a_l_1 (l_1).length c_l_1] w fun v w' => v = .int .i64 r.1 ∧ Ev [b_k_0] w w' ∧ w'.heap[b_k_0]? = some (.cells #[.slice a_k_0_l (k_0_l).length c_k_0_l, .int .i64 r.2] 41 (0, 0)) := by
  refine calls_vc hmx Try.func20 (by kernel_rfl) rfl (rs := [.tmp 4]) rfl (by kernel_rfl) (args := [.pointer (some ⟨b_k_0, 0, none⟩), .slice a_l_1 (l_1).length c_l_1]) rfl ?_
  have hev : Ev [b_k_0] w w := Ev.refl _ _
  have hfr : FR w.heap.size [] := FR.nil _
  refine c_seq ?_
  refine c_plain ?_
  refine x_pure 1 [(4, .int .i64 0)] _ _ _ (by kernel_rfl) ?_
  refine x_end rfl ?_
  refine k_then ?_
  refine c_norm [(0, .pointer (some ⟨b_k_0, 0, none⟩)), (1, .slice a_l_1 (l_1).length c_l_1)] ⟨rfl, rfl, trivial⟩ (fun J => ?_)
  refine c_seq ?_
  refine c_plain ?_
  refine x_pure 3 [(5, .slice a_l_1 (l_1).length c_l_1), (6, .pointer (some ⟨b_k_0, 0, none⟩)), (7, .slice a_l_1 (l_1).length c_l_1)] _ _ _ (by kernel_rfl) ?_
  refine x_len (vs := [.slice a_l_1 (l_1).length c_l_1]) (.int .i64 ((l_1).length : Int)) rfl rfl rfl (reads_len tsl22 _ _ _ _ _) ?_
  obtain ⟨x4, hx, h⟩ := bind_some h
  have hpk := hms.pick [some 0, some 1] [[b_k_0], M] rfl
  have hsb : ∀ x ∈ fl [[b_k_0], (fl [M])], x ∈ fl [[b_k_0], M] := fun x hx => pick_sub [some 0, some 1] [[b_k_0], M] rfl x (focus_sub (ls := [[b_k_0], M]) 0 rfl x hx)
  have hcall := gen_Maker_Next_w b_k_0 a_k_0_l c_k_0_l k_0_l k_0_n ((l_1).length : Int) _ w (fl [M]) (hpk.focus 0 rfl) (hs_k_0_l.sub hsb) hb_k_0 hx
  refine x_call 11 #[] #[] [.pointer (some ⟨b_k_0, 0, none⟩), .int .i64 ((l_1).length : Int)] _ rfl rfl rfl rfl hcall ?_
  rintro v w5 ⟨rfl, he5, hbn5⟩
  clear hcall hx
  refine ⟨.inl rfl, ?_⟩
  have hst := Stp.ev' (ls := [[b_k_0], M]) he5 (mem_flat 0 rfl)
  replace hs_k_0_l := hs_k_0_l.step hst
  replace hs_l_1 := hs_l_1.step hst
  replace hms := hms.ev he5
  replace hev := hev.then he5 (fun b hb => .inl (by simpa using hb))
  replace hb_k_0 := hbn5
  obtain ⟨x6, hx6, h⟩ := bind_some h
  obtain ⟨ad6, cs6, hr6, hc6, hR⟩ := reads_index (Mo := []) tsl22 hs_l_1 hx6
  obtain rfl := hR
  refine x_indexAddr (xv := .slice a_l_1 (l_1).length c_l_1) (yv := .int .i64 x4.1) (.pointer (some ad6)) rfl rfl rfl rfl hr6 ?_
  refine x_load (xv := .pointer (some ad6)) (.int .i64 x6) rfl rfl rfl (reads_cell0 tcell3 hc6 (fun _ h => by cases h)) ?_
  refine x_pure 1 [(4, .int .i64 x6)] _ _ _ (by kernel_rfl) ?_
  refine x_end rfl ?_
  refine k_then ?_
  refine c_norm [(4, .int .i64 x6)] ⟨rfl, trivial⟩ (fun J => ?_)
  refine c_ret ?_
  refine r_ret (r_one (.int .i64 x6) rfl ?_)
  have hx := some_inj h
  subst hx
  have hsu : ∀ x ∈ fl [[b_k_0], M], x ∈ fl [[b_k_0], M] := fl_right (loc := []) (par := [[b_k_0], M])
  exact ⟨rfl, hev, hb_k_0⟩
def gen_Ints_L3 (a_0 : List Int) (b_1 : List Int) (s : Int) : Option (Step Int (Bool ⊕ Unit)) :=
match s with
| i_s5 =>
(if (decide (i_s5 < ((a_0).length : Int))) = true then
((idx a_0 i_s5).bind fun x4 =>
((idx b_1 i_s5).bind fun x6 =>
(if (x4 != x6) = true then
some (.done (.inl false))
else
some (.next (IntKind.i64.wrap (i_s5 + 1))))))
else
some (.done (.inr ())))

def gen_Ints (a_0 : List Int) (b_1 : List Int) : Option Bool :=
(if (((a_0).length : Int) != ((b_1).length : Int)) = true then
some false
else
((loop (gen_Ints_L3 a_0 b_1) 0).bind fun d => match d with
| (.inl t4__x4) => some t4__x4
| (.inr _) => some true))

theorem gen_Ints_w (a_a_0 : Option Addr) (c_a_0 : Nat) (a_0 : List Int) (a_b_1 : Option Addr) (c_b_1 : Nat) (b_1 : List Int) (r : Bool) (w : World) (M : List Nat) (hms : MS w [M]) (hs_a_0 : SlR (eInt .i64) w (fl [M]) a_a_0 c_a_0 a_0) (hs_b_1 : SlR (eInt .i64) w (fl [M]) a_b_1 c_b_1 b_1) (h : gen_Ints a_0 b_1 = some r) : CallVC Try.prog 34 [.slice a_a_0 (a_0).length c_a_0, .slice a_b_1 (b_1).length c_b_1] w fun v w' => v = .bool r ∧ Ev [] w w' := by
  refine calls_vc hmx Try.func34 (by kernel_rfl) rfl (rs := [.tmp 4]) rfl (by kernel_rfl) (args := [.slice a_a_0 (a_0).length c_a_0, .slice a_b_1 (b_1).length c_b_1]) rfl ?_
  have hev : Ev [] w w := Ev.refl _ _
  have hfr : FR w.heap.size [] := FR.nil _
  refine c_seq ?_
  refine c_plain ?_
  refine x_pure 1 [(4, .bool false)] _ _ _ (by kernel_rfl) ?_
  refine x_end rfl ?_
  refine k_then ?_
  refine c_norm [(0, .slice a_a_0 (a_0).length c_a_0), (1, .slice a_b_1 (b_1).length c_b_1)] ⟨rfl, rfl, trivial⟩ (fun J => ?_)
  refine c_seq ?_
  refine c_seq ?_
  refine c_plain ?_
  refine x_pure 1 [(6, .slice a_a_0 (a_0).length c_a_0)] _ _ _ (by kernel_rfl) ?_
  refine x_len (vs := [.slice a_a_0 (a_0).length c_a_0]) (.int .i64 ((a_0).length : Int)) rfl rfl rfl (reads_len tsl22 _ _ _ _ _) ?_
  refine x_pure 1 [(8, .slice a_b_1 (b_1).length c_b_1)] _ _ _ (by kernel_rfl) ?_
  refine x_len (vs := [.slice a_b_1 (b_1).length c_b_1]) (.int .i64 ((b_1).length : Int)) rfl rfl rfl (reads_len tsl22 _ _ _ _ _) ?_
  refine x_pure 1 [(10, .bool (((a_0).length : Int) != ((b_1).length : Int)))] _ _ _ (by kernel_rfl) ?_
  refine x_end rfl ?_
  refine k_then ?_
  refine c_norm [(0, .slice a_a_0 (a_0).length c_a_0), (1, .slice a_b_1 (b_1).length c_b_1), (10, .bool (((a_0).length : Int) != ((b_1).length : Int)))] ⟨rfl, rfl, rfl, trivial⟩ (fun J => ?_)
  refine c_cond (((a_0).length : Int) != ((b_1).length : Int)) rfl (fun hb => ?_) (fun hb => ?_)
  · replace h := ite_t hb h
    refine c_seq ?_
    refine c_plain ?_
    refine x_pure 1 [(4, .bool false)] _ _ _ (by kernel_rfl) ?_
    refine x_end rfl ?_
    refine k_then ?_
    refine c_norm [(4, .bool false)] ⟨rfl, trivial⟩ (fun J => ?_)
    refine c_ret ?_
    refine k_then_ret ?_
    refine r_ret (r_one (.bool false) rfl ?_)
    have hx := some_inj h
    subst hx
    have hsu : ∀ x ∈ fl [M], x ∈ fl [M] := fl_right (loc := []) (par := [M])
    exact ⟨rfl, hev⟩
  · replace h := ite_f hb h
    refine c_skip ?_
    refine k_then ?_
    refine c_norm [(0, .slice a_a_0 (a_0).length c_a_0), (1, .slice a_b_1 (b_1).length c_b_1)] ⟨rfl, rfl, trivial⟩ (fun J => ?_)
    refine c_seq ?_
    refine c_seq ?_
    refine c_plain ?_
    refine x_pure 1 [(5, .int .i64 0)] _ _ _ (by kernel_rfl) ?_
    refine x_end rfl ?_
    refine k_then ?_
    refine c_norm [(0, .slice a_a_0 (a_0).length c_a_0), (1, .slice a_b_1 (b_1).length c_b_1), (5, .int .i64 0)] ⟨rfl, rfl, rfl, trivial⟩ (fun J => ?_)
    refine c_block ?_
    obtain ⟨d3, hd3, h3⟩ := bind_some h
    obtain ⟨m3, hd3⟩ := loop_some hd3
    refine c_loop (loop_rule hmx (σ := Nat × Int) (fun s => match s with | (_, i_s5) => [(0, .slice a_a_0 (a_0).length c_a_0), (1, .slice a_b_1 (b_1).length c_b_1), (5, .int .i64 i_s5)]) (fun s w' => match s with | (m, i_s5) => loopN (gen_Ints_L3 a_0 b_1) m i_s5 = some d3 ∧ Ev [] w w' ∧ MS w' [M] ∧ FR w.heap.size [] ∧ SlR (eInt .i64) w' (fl [M]) a_a_0 c_a_0 a_0 ∧ SlR (eInt .i64) w' (fl [M]) a_b_1 c_b_1 b_1) (fun s => s.1) (m3, 0) ⟨rfl, rfl, rfl, trivial⟩ ⟨hd3, hev, hms, hfr, hs_a_0, hs_b_1⟩ ?_)
    rintro ⟨m3, i_s5⟩ J w3 ⟨hn3, hev, hms, hfr, hs_a_0, hs_b_1⟩
    rcases m3 with _ | m3
    · exact (loopN_zero hn3).elim
    obtain ⟨t3, h, hn3⟩ := bind_some hn3
    refine c_seq ?_
    refine c_seq ?_
    refine c_plain ?_
    refine x_pure 2 [(11, .int .i64 i_s5), (12, .slice a_a_0 (a_0).length c_a_0)] _ _ _ (by kernel_rfl) ?_
    refine x_len (vs := [.slice a_a_0 (a_0).length c_a_0]) (.int .i64 ((a_0).length : Int)) rfl rfl rfl (reads_len tsl22 _ _ _ _ _) ?_
    refine x_pure 1 [(14, .bool (decide (i_s5 < ((a_0).length : Int))))] _ _ _ (by kernel_rfl) ?_
    refine x_end rfl ?_
    refine k_then ?_
    refine c_norm [(0, .slice a_a_0 (a_0).length c_a_0), (1, .slice a_b_1 (b_1).length c_b_1), (5, .int .i64 i_s5), (14, .bool (decide (i_s5 < ((a_0).length : Int))))] ⟨rfl, rfl, rfl, rfl, trivial⟩ (fun J => ?_)
    refine c_cond (decide (i_s5 < ((a_0).length : Int))) rfl (fun hb => ?_) (fun hb => ?_)
    · replace h := ite_t hb h
      refine c_skip ?_
      refine k_then ?_
      refine c_norm [(0, .slice a_a_0 (a_0).length c_a_0), (1, .slice a_b_1 (b_1).length c_b_1), (5, .int .i64 i_s5)] ⟨rfl, rfl, rfl, trivial⟩ (fun J => ?_)
      refine c_seq ?_
      refine c_block ?_
      refine c_seq ?_
      refine c_drawn [] [(0, false), (1, false), (2, false), (3, false), (4, false), (5, false), (6, false), (7, false), (8, false)] _ (by kernel_rfl) rfl ?_
      have hst := Stp.ext (ls := [M]) (Ev.drew w3)
      replace hs_a_0 := hs_a_0.step hst
      replace hs_b_1 := hs_b_1.step hst
      replace hms := hms.ev (Ev.drew w3)
      replace hev := hev.ext (Ev.drew w3)
      refine x_pure 2 [(17, .slice a_a_0 (a_0).length c_a_0), (18, .int .i64 i_s5)] _ _ _ (by kernel_rfl) ?_
      obtain ⟨x4, hx4, h⟩ := bind_some h
      obtain ⟨ad4, cs4, hr4, hc4, hR⟩ := reads_index (Mo := []) tsl22 hs_a_0 hx4
      obtain rfl := hR
      refine x_indexAddr (xv := .slice a_a_0 (a_0).length c_a_0) (yv := .int .i64 i_s5) (.pointer (some ad4)) rfl rfl rfl rfl hr4 ?_
      refine x_load (xv := .pointer (some ad4)) (.int .i64 x4) rfl rfl rfl (reads_cell0 tcell3 hc4 (fun _ h => by cases h)) ?_
      refine x_pure 2 [(21, .slice a_b_1 (b_1).length c_b_1), (22, .int .i64 i_s5)] _ _ _ (by kernel_rfl) ?_
      obtain ⟨x6, hx6, h⟩ := bind_some h
      obtain ⟨ad6, cs6, hr6, hc6, hR⟩ := reads_index (Mo := []) tsl22 hs_b_1 hx6
      obtain rfl := hR
      refine x_indexAddr (xv := .slice a_b_1 (b_1).length c_b_1) (yv := .int .i64 i_s5) (.pointer (some ad6)) rfl rfl rfl rfl hr6 ?_
      refine x_load (xv := .pointer (some ad6)) (.int .i64 x6) rfl rfl rfl (reads_cell0 tcell3 hc6 (fun _ h => by cases h)) ?_
      refine x_pure 1 [(25, .bool (x4 != x6))] _ _ _ (by kernel_rfl) ?_
      refine x_end rfl ?_
      refine k_then ?_
      refine c_norm [(0, .slice a_a_0 (a_0).length c_a_0), (1, .slice a_b_1 (b_1).length c_b_1), (5, .int .i64 i_s5), (25, .bool (x4 != x6))] ⟨rfl, rfl, rfl, rfl, trivial⟩ (fun J => ?_)
      refine c_cond (x4 != x6) rfl (fun hb => ?_) (fun hb => ?_)
      · replace h := ite_t hb h
        refine c_seq ?_
        refine c_plain ?_
        refine x_pure 1 [(4, .bool false)] _ _ _ (by kernel_rfl) ?_
        refine x_end rfl ?_
        refine k_then ?_
        refine c_norm [(4, .bool false)] ⟨rfl, trivial⟩ (fun J => ?_)
        refine c_ret ?_
        refine k_block_ret ?_
        refine k_then_ret ?_
        have hx := some_inj h
        subst hx
        have hy := some_inj hn3
        subst hy
        replace h := h3
        refine k_then_ret ?_
        refine k_block_ret ?_
        refine k_then_ret ?_
        refine r_ret (r_one (.bool false) rfl ?_)
        have hx := some_inj h
        subst hx
        have hsu : ∀ x ∈ fl [M], x ∈ fl [M] := fl_right (loc := []) (par := [M])
        exact ⟨rfl, hev⟩
      · replace h := ite_f hb h
        refine c_skip ?_
        refine k_block ?_
        refine k_then ?_
        refine c_norm [(0, .slice a_a_0 (a_0).length c_a_0), (1, .slice a_b_1 (b_1).length c_b_1), (5, .int .i64 i_s5)] ⟨rfl, rfl, rfl, trivial⟩ (fun J => ?_)
        refine c_plain ?_
        refine x_pure 3 [(15, .int .i64 i_s5), (16, .int .i64 (IntKind.i64.wrap (i_s5 + 1))), (5, .int .i64 (IntKind.i64.wrap (i_s5 + 1)))] _ _ _ (by kernel_rfl) ?_
        refine x_end rfl ?_
        have hx := some_inj h
        subst hx
        exact k_then ⟨(m3, IntKind.i64.wrap (i_s5 + 1)), ⟨rfl, rfl, rfl, trivial⟩, ⟨hn3, hev, hms, hfr, hs_a_0, hs_b_1⟩, Nat.lt_succ_self _⟩
    · replace h := ite_f hb h
      refine c_exit ?_
      refine k_then_exit ?_
      have hx := some_inj h
      subst hx
      have hy := some_inj hn3
      subst hy
      replace h := h3
      refine k_then_exit ?_
      refine k_block_in ?_
      refine k_then ?_
      refine c_norm [] trivial (fun J => ?_)
      refine c_seq ?_
      refine c_plain ?_
      refine x_pure 1 [(4, .bool true)] _ _ _ (by kernel_rfl) ?_
      refine x_end rfl ?_
      refine k_then ?_
      refine c_norm [(4, .bool true)] ⟨rfl, trivial⟩ (fun J => ?_)
      refine c_ret ?_
      refine r_ret (r_one (.bool true) rfl ?_)
      have hx := some_inj h
      subst hx
      have hsu : ∀ x ∈ fl [M], x ∈ fl [M] := fl_right (loc := []) (par := [M])
      exact ⟨rfl, hev⟩
end Go.Proofs.Ytjcikgeffhghkaa
