/- Walks, printed by program: each function returns what the partial function of the same name returns. Conditions: those of each theorem. -/
import Derived.Test.YtacimonplnlmgaaGT
import Derived.Test.YtacimonplnlmgaaGgen
set_option linter.unusedVariables false
set_option linter.unusedSimpArgs false
set_option maxRecDepth 4000
namespace Go.Proofs.Ytacimonplnlmgaa
open Go Go.V Go.Proofs
def law11_order_J13 (p1_0 : List (Int × Int × Int × Int)) (d7_l11 : List (List Int)) (x_s7_l11 : Int) (t49__s49_j13 : Bool) : Option (Step ((List (List Int)) × Int) (List (List Int))) :=
(if t49__s49_j13 = true then
((idx p1_0 x_s7_l11).bind fun x20 =>
((idx d7_l11 x20.1).bind fun x22 =>
(if x22.length + ([x_s7_l11]).length ≤ 4294967296 then
((idx d7_l11 x20.1).bind fun x29 =>
some (.next ((d7_l11.set (Int.toNat x20.1) (x22 ++ [x_s7_l11])), IntKind.i64.wrap (x_s7_l11 + 1))))
else none)))
else
some (.next (d7_l11, IntKind.i64.wrap (x_s7_l11 + 1))))

def law11_order_L11 (p1_0 : List (Int × Int × Int × Int)) (b_s6_l9 : Int) (s : (List (List Int)) × Int) : Option (Step ((List (List Int)) × Int) (List (List Int))) :=
match s with
| (d7_l11, x_s7_l11) =>
(if (decide (x_s7_l11 < ((p1_0).length : Int))) = true then
((idx p1_0 x_s7_l11).bind fun x14 =>
(if (x14.2.1 == b_s6_l9) = true then
((idx p1_0 x_s7_l11).bind fun x16 =>
(if (decide (x16.1 < 3)) = true then
((idx p1_0 x_s7_l11).bind fun x18 =>
law11_order_J13 p1_0 d7_l11 x_s7_l11 (decide (x18.1 ≥ 0)))
else
law11_order_J13 p1_0 d7_l11 x_s7_l11 false))
else
law11_order_J13 p1_0 d7_l11 x_s7_l11 false))
else
some (.done d7_l11))

def law11_order_J32 (p0_0 : List Int) (p1_0 : List (Int × Int × Int × Int)) (e2_j32_1 : Int) (d7_j32 : List (List Int)) : Option ((List (List Int)) × Int) :=
((gen_Maker_Next p0_0 e2_j32_1 6).bind fun x59 =>
(if (x59.1 == 0) = true then
((gen_Maker_From p0_0 x59.2 (-1) ((p1_0).length : Int)).bind fun x61 =>
(if d7_j32.length + 1 ≤ 4294967296 then
some ((d7_j32 ++ [([x61.1] : List Int)]), x61.2)
else none))
else
some (d7_j32, x59.2)))

def law11_order_L9 (p1_0 : List (Int × Int × Int × Int)) (s : (List (List Int)) × Int) : Option (Step ((List (List Int)) × Int) (List (List Int))) :=
match s with
| (d7_l9, b_s6_l9) =>
(if (decide (b_s6_l9 < 32)) = true then
((loop (law11_order_L11 p1_0 b_s6_l9) (d7_l9, 0)).bind fun d => match d with
| d7_x11 => some (.next (d7_x11, IntKind.i64.wrap (b_s6_l9 + 1))))
else
some (.done d7_l9))

def law11_order (p0_0 : List Int) (p0_1 : Int) (p1_0 : List (Int × Int × Int × Int)) (p1_1 : Int) : Option ((List (List Int)) × Int) :=
(if (0 : Int) ≤ 3 ∧ (3 : Int) ≤ 4294967296 then
((loop (law11_order_L9 p1_0) ((List.replicate (Int.toNat 3) ([] : List Int)), 0)).bind fun d => match d with
| d7_x9 => ((gen_Maker_Next p0_0 p0_1 3).bind fun x33 =>
(if (x33.1 == 0) = true then
((gen_Maker_Next p0_0 x33.2 3).bind fun x35 =>
((idx d7_x9 x35.1).bind fun x37 =>
(if (decide (((x37).length : Int) > 1)) = true then
((gen_Maker_Next p0_0 x35.2 (IntKind.i64.wrap (((x37).length : Int) - 1))).bind fun x39 =>
((idx d7_x9 x35.1).bind fun x41 =>
((idx d7_x9 x35.1).bind fun x43 =>
((idx d7_x9 x35.1).bind fun x45 =>
((idx x45 (IntKind.i64.wrap (x39.1 + 1))).bind fun x47 =>
((idx d7_x9 x35.1).bind fun x49 =>
((idx x49 x39.1).bind fun x51 =>
((idx x41 x39.1).bind fun x53 =>
((idx (x41.set (Int.toNat x39.1) x47) (IntKind.i64.wrap (x39.1 + 1))).bind fun x56 =>
law11_order_J32 p0_0 p1_0 x39.2 ((d7_x9.set (Int.toNat x35.1) (x41.set (Int.toNat x39.1) x47)).set (Int.toNat x35.1) ((x41.set (Int.toNat x39.1) x47).set (Int.toNat (IntKind.i64.wrap (x39.1 + 1))) x51)))))))))))
else
law11_order_J32 p0_0 p1_0 x35.2 d7_x9)))
else
law11_order_J32 p0_0 p1_0 x33.2 d7_x9)))
else none)

theorem law11_order_w (b_p0 : Nat) (a_p0_0 : Option Addr) (c_p0_0 : Nat) (p0_0 : List Int) (p0_1 : Int) (a_p1_0 : Option Addr) (c_p1_0 : Nat) (p1_0 : List (Int × Int × Int × Int)) (p1_1 : Int) (r : (List (List Int)) × Int) (w : World) (M : List Nat) (hms : MS w [[b_p0], M]) (hs_p0_0 : SlR (eInt .i64) w (fl [[b_p0], M]) a_p0_0 c_p0_0 p0_0) (hb_p0 : w.heap[b_p0]? = some (.cells #[.slice a_p0_0 (p0_0).length c_p0_0, .int .i64 p0_1] 54 (0, 0))) (hs_p1_0 : SlR (eProd (eInt .i64) (eProd (eInt .i64) (eProd (eInt .i64) (eInt .i64)))) w (fl [[b_p0], M]) a_p1_0 c_p1_0 p1_0) (h : law11_order p0_0 p0_1 p1_0 p1_1 = some r) : CallVC Try.prog 20 [.pointer (some ⟨b_p0, 0, none⟩), .agg #[.slice a_p1_0 (p1_0).length c_p1_0, .int .i64 p1_1]] w fun v w' => ∃ (a0' : Option Addr), ∃ (c0' : Nat), ∃ (B2' : List Nat), v = .slice a0' (r.1).length c0' ∧ Ev [b_p0] w w' ∧ w'.heap[b_p0]? = some (.cells #[.slice a_p0_0 (p0_0).length c_p0_0, .int .i64 r.2] 54 (0, 0)) ∧ MS w' [B2', [b_p0], M] ∧ FR w.heap.size [B2'] ∧ OwnR (eInt .i64) 3 27 w' B2' a0' c0' r.1 none := by
  refine calls_vc hmx Try.func20 (by kernel_rfl) rfl (rs := [.tmp 4]) rfl (by kernel_rfl) (args := [.pointer (some ⟨b_p0, 0, none⟩), .agg #[.slice a_p1_0 (p1_0).length c_p1_0, .int .i64 p1_1]]) rfl ?_
  have hev : Ev [b_p0] w w := Ev.refl _ _
  have hfr : FR w.heap.size [] := FR.nil _
  refine c_seq (c_plain ?_)
  refine x_box (xv := .agg #[.slice a_p1_0 (p1_0).length c_p1_0, .int .i64 p1_1]) rfl rfl rfl (fun b4 w4 hq4 hb4 he4 hz4 => ?_)
  replace hb4 : w4.heap[b4]? = some (.cells #[.slice a_p1_0 (p1_0).length c_p1_0, .int .i64 p1_1] 24 (0, 0)) := hb4
  refine ⟨.inl rfl, ?_⟩
  have hst := Stp.box (ls := [[b_p0], M]) he4 hq4
  replace hs_p0_0 := hs_p0_0.step hst
  replace hb_p0 := he4.box hb_p0 nn
  replace hs_p1_0 := hs_p1_0.step hst
  replace hms := hms.box he4 hq4 hb4
  replace hfr := hfr.box hev.size hq4
  replace hev := hev.ext he4
  refine x_pure 1 [(4, .slice none 0 0)] _ _ _ (by kernel_rfl) ?_
  refine x_end rfl (k_then ?_)
  refine c_seq (c_plain ?_)
  have hg := guard_l h
  replace h := guard_r h
  obtain ⟨a6, c6, w6, B6, hr6, he6, hn6, ho6⟩ := OwnR.mk (P := Try.prog) (T := 3) (eInt .i64) tel37 w4 3 hg.1 hg.2
  refine x_makeSlice _ w6 (xv := .int .i64 3) (yv := .int .i64 3) rfl rfl rfl rfl hr6 ?_
  refine ⟨.inl rfl, ?_⟩
  have hst := Stp.push (ls := [[b4], [b_p0], M]) (l := B6) he6 (fun _ h => by cases h) (fun b hb => (hn6 b hb).1)
  replace hs_p0_0 := hs_p0_0.step hst
  replace hb_p0 := he6.box hb_p0 nn
  replace hs_p1_0 := hs_p1_0.step hst
  replace hb4 := he6.box hb4 nn
  replace hms := hms.push he6 hn6
  replace hfr := hfr.push (fun b hb => Nat.le_trans hev.size (hn6 b hb).1)
  replace hev := hev.ext he6
  refine x_pure 1 [(5, .slice a6 ((List.replicate (Int.toNat 3) ([] : List Int))).length c6)] _ _ _ (by kernel_rfl) ?_
  refine x_end rfl (k_then ?_)
  refine c_seq ?_
  refine c_seq (c_plain ?_)
  refine x_pure 1 [(6, .int .i64 0)] _ _ _ (by kernel_rfl) ?_
  refine x_end rfl (k_then ?_)
  refine c_block ?_
  have hpk : MS w6 [[b4], B6, [b_p0], M] := hms.pick [some 1, some 0, some 2, some 3] _ rfl
  have hsu : ∀ x ∈ fl [[b4], B6, [b_p0], M], x ∈ fl [B6, [b4], [b_p0], M] := pick_sub [some 1, some 0, some 2, some 3] _ rfl
  replace hs_p0_0 := hs_p0_0.sub hsu
  replace hs_p1_0 := hs_p1_0.sub hsu
  replace hms := hpk
  replace hfr : FR w.heap.size [[b4], B6] := hfr.pick [some 1, some 0] _ rfl
  clear hpk hsu
  obtain ⟨d9, hd9, h9⟩ := bind_some h
  obtain ⟨m9, hd9⟩ := loop_some hd9
  refine c_loop (loop_rule hmx (σ := Nat × (List (List Int)) × Int × List Nat) (fun s => match s with | (_, d7_l9, b_s6_l9, B7_l9) => [(0, .pointer (some ⟨b_p0, 0, none⟩)), (3, .pointer (some ⟨b4, 0, none⟩)), (5, .slice a6 (d7_l9).length c6), (6, .int .i64 b_s6_l9)]) (fun s w' => match s with | (m, d7_l9, b_s6_l9, B7_l9) => loopN (law11_order_L9 p1_0) m (d7_l9, b_s6_l9) = some d9 ∧ Ev [b_p0] w w' ∧ MS w' [[b4], B7_l9, [b_p0], M] ∧ FR w.heap.size [[b4], B7_l9] ∧ SlR (eInt .i64) w' (fl [[b4], B7_l9, [b_p0], M]) a_p0_0 c_p0_0 p0_0 ∧ w'.heap[b_p0]? = some (.cells #[.slice a_p0_0 (p0_0).length c_p0_0, .int .i64 p0_1] 54 (0, 0)) ∧ SlR (eProd (eInt .i64) (eProd (eInt .i64) (eProd (eInt .i64) (eInt .i64)))) w' (fl [[b4], B7_l9, [b_p0], M]) a_p1_0 c_p1_0 p1_0 ∧ w'.heap[b4]? = some (.cells #[.slice a_p1_0 (p1_0).length c_p1_0, .int .i64 p1_1] 24 (0, 0)) ∧ OwnR (eInt .i64) 3 27 w' B7_l9 a6 c6 d7_l9 none) (fun s => s.1) (m9, (List.replicate (Int.toNat 3) ([] : List Int)), 0, B6) ⟨rfl, rfl, rfl, rfl, trivial⟩ ⟨hd9, hev, hms, hfr, hs_p0_0, hb_p0, hs_p1_0, hb4, ho6⟩ ?_)
  rintro ⟨m9, d7_l9, b_s6_l9, B7_l9⟩ J wl9 ⟨hn9, hev, hms, hfr, hs_p0_0, hb_p0, hs_p1_0, hb4, ho6⟩
  rcases m9 with _ | m9
  · exact (loopN_zero hn9).elim
  obtain ⟨t9, h, hn9⟩ := bind_some hn9
  refine c_seq ?_
  refine c_seq (c_plain ?_)
  refine x_pure 2 [(13, .int .i64 b_s6_l9), (14, .bool (decide (b_s6_l9 < 32)))] _ _ _ (by kernel_rfl) ?_
  refine x_end rfl (k_then ?_)
  refine c_norm [(0, .pointer (some ⟨b_p0, 0, none⟩)), (3, .pointer (some ⟨b4, 0, none⟩)), (5, .slice a6 (d7_l9).length c6), (6, .int .i64 b_s6_l9), (14, .bool (decide (b_s6_l9 < 32)))] ⟨rfl, rfl, rfl, rfl, rfl, trivial⟩ (fun J => ?_)
  refine c_cond (decide (b_s6_l9 < 32)) rfl (fun hb => ?_) (fun hb => ?_)
  · replace h := ite_t hb h
    refine c_skip ?_
    refine k_then ?_
    refine c_seq ?_
    refine c_block ?_
    refine c_seq (c_plain ?_)
    refine x_pure 1 [(7, .int .i64 0)] _ _ _ (by kernel_rfl) ?_
    refine x_end rfl (k_then ?_)
    refine c_block ?_
    obtain ⟨d11, hd11, h11⟩ := bind_some h
    obtain ⟨m11, hd11⟩ := loop_some hd11
    refine c_loop (loop_rule hmx (σ := Nat × (List (List Int)) × Int × List Nat) (fun s => match s with | (_, d7_l11, x_s7_l11, B7_l11) => [(0, .pointer (some ⟨b_p0, 0, none⟩)), (3, .pointer (some ⟨b4, 0, none⟩)), (5, .slice a6 (d7_l11).length c6), (6, .int .i64 b_s6_l9), (7, .int .i64 x_s7_l11)]) (fun s w' => match s with | (m, d7_l11, x_s7_l11, B7_l11) => loopN (law11_order_L11 p1_0 b_s6_l9) m (d7_l11, x_s7_l11) = some d11 ∧ Ev [b_p0] w w' ∧ MS w' [[b4], B7_l11, [b_p0], M] ∧ FR w.heap.size [[b4], B7_l11] ∧ SlR (eInt .i64) w' (fl [[b4], B7_l11, [b_p0], M]) a_p0_0 c_p0_0 p0_0 ∧ w'.heap[b_p0]? = some (.cells #[.slice a_p0_0 (p0_0).length c_p0_0, .int .i64 p0_1] 54 (0, 0)) ∧ SlR (eProd (eInt .i64) (eProd (eInt .i64) (eProd (eInt .i64) (eInt .i64)))) w' (fl [[b4], B7_l11, [b_p0], M]) a_p1_0 c_p1_0 p1_0 ∧ w'.heap[b4]? = some (.cells #[.slice a_p1_0 (p1_0).length c_p1_0, .int .i64 p1_1] 24 (0, 0)) ∧ OwnR (eInt .i64) 3 27 w' B7_l11 a6 c6 d7_l11 none) (fun s => s.1) (m11, d7_l9, 0, B7_l9) ⟨rfl, rfl, rfl, rfl, rfl, trivial⟩ ⟨hd11, hev, hms, hfr, hs_p0_0, hb_p0, hs_p1_0, hb4, ho6⟩ ?_)
    rintro ⟨m11, d7_l11, x_s7_l11, B7_l11⟩ J wl11 ⟨hn11, hev, hms, hfr, hs_p0_0, hb_p0, hs_p1_0, hb4, ho6⟩
    rcases m11 with _ | m11
    · exact (loopN_zero hn11).elim
    obtain ⟨t11, h, hn11⟩ := bind_some hn11
    refine c_seq ?_
    refine c_seq (c_plain ?_)
    refine x_pure 1 [(17, .int .i64 x_s7_l11)] _ _ _ (by kernel_rfl) ?_
    refine x_fieldAddr (xv := .pointer (some ⟨b4, 0, none⟩)) (.pointer (some ⟨b4, 0, none⟩)) rfl rfl rfl (reads_field tfld24_0 _ _) ?_
    refine x_load (xv := .pointer (some ⟨b4, 0, none⟩)) (.slice a_p1_0 (p1_0).length c_p1_0) rfl rfl rfl (reads_box tcell22 hb4 nn 0 _ rfl) ?_
    refine x_len (vs := [.slice a_p1_0 (p1_0).length c_p1_0]) (.int .i64 ((p1_0).length : Int)) rfl rfl rfl (reads_len tsl22 _ _ _ _ _) ?_
    refine x_pure 1 [(21, .bool (decide (x_s7_l11 < ((p1_0).length : Int))))] _ _ _ (by kernel_rfl) ?_
    refine x_end rfl (k_then ?_)
    refine c_norm [(0, .pointer (some ⟨b_p0, 0, none⟩)), (3, .pointer (some ⟨b4, 0, none⟩)), (5, .slice a6 (d7_l11).length c6), (6, .int .i64 b_s6_l9), (7, .int .i64 x_s7_l11), (21, .bool (decide (x_s7_l11 < ((p1_0).length : Int))))] ⟨rfl, rfl, rfl, rfl, rfl, rfl, trivial⟩ (fun J => ?_)
    refine c_cond (decide (x_s7_l11 < ((p1_0).length : Int))) rfl (fun hb => ?_) (fun hb => ?_)
    · replace h := ite_t hb h
      refine c_skip ?_
      refine k_then ?_
      refine c_seq ?_
      refine c_block ?_
      refine c_join (σ := Bool) (fun s => match s with | t49__s49_j13 => [(0, .pointer (some ⟨b_p0, 0, none⟩)), (3, .pointer (some ⟨b4, 0, none⟩)), (5, .slice a6 (d7_l11).length c6), (6, .int .i64 b_s6_l9), (7, .int .i64 x_s7_l11), (49, .bool t49__s49_j13)]) (fun s w' => match s with | t49__s49_j13 => law11_order_J13 p1_0 d7_l11 x_s7_l11 t49__s49_j13 = some t11 ∧ Ev [b_p0] w w' ∧ MS w' [[b4], B7_l11, [b_p0], M] ∧ FR w.heap.size [[b4], B7_l11] ∧ SlR (eInt .i64) w' (fl [[b4], B7_l11, [b_p0], M]) a_p0_0 c_p0_0 p0_0 ∧ w'.heap[b_p0]? = some (.cells #[.slice a_p0_0 (p0_0).length c_p0_0, .int .i64 p0_1] 54 (0, 0)) ∧ SlR (eProd (eInt .i64) (eProd (eInt .i64) (eProd (eInt .i64) (eInt .i64)))) w' (fl [[b4], B7_l11, [b_p0], M]) a_p1_0 c_p1_0 p1_0 ∧ w'.heap[b4]? = some (.cells #[.slice a_p1_0 (p1_0).length c_p1_0, .int .i64 p1_1] 24 (0, 0)) ∧ OwnR (eInt .i64) 3 27 w' B7_l11 a6 c6 d7_l11 none) ?_ ?_
      · refine c_plain ?_
        refine x_fieldAddr (xv := .pointer (some ⟨b4, 0, none⟩)) (.pointer (some ⟨b4, 0, none⟩)) rfl rfl rfl (reads_field tfld24_0 _ _) ?_
        refine x_load (xv := .pointer (some ⟨b4, 0, none⟩)) (.slice a_p1_0 (p1_0).length c_p1_0) rfl rfl rfl (reads_box tcell22 hb4 nn 0 _ rfl) ?_
        refine x_pure 1 [(26, .int .i64 x_s7_l11)] _ _ _ (by kernel_rfl) ?_
        obtain ⟨x14, hx14, h⟩ := bind_some h
        obtain ⟨ad14, cs14, hr14, hc14, hR⟩ := reads_index (Mo := []) tsl22 hs_p1_0 hx14
        obtain ⟨_, _, rfl, rfl, ⟨_, _, rfl, rfl, ⟨_, _, rfl, rfl, rfl⟩⟩⟩ := hR
        refine x_indexAddr (xv := .slice a_p1_0 (p1_0).length c_p1_0) (yv := .int .i64 x_s7_l11) (.pointer (some ad14)) rfl rfl rfl rfl hr14 ?_
        refine x_fieldAddr (xv := .pointer (some ad14)) (.pointer (some (Addr.add ad14 1))) rfl rfl rfl (reads_field tfld26_1 _ _) ?_
        refine x_load (xv := .pointer (some (Addr.add ad14 1))) (.int .i64 x14.2.1) rfl rfl rfl (reads_cell tcell3 hc14 (fun _ h => by cases h) 1 _ rfl) ?_
        refine x_pure 3 [(30, .int .i64 b_s6_l9), (31, .bool (x14.2.1 == b_s6_l9)), (32, .bool (x14.2.1 == b_s6_l9))] _ _ _ (by kernel_rfl) ?_
        refine x_split 32 (x14.2.1 == b_s6_l9) rfl (fun hb => ?_) (fun hb => ?_)
        · replace h := ite_t hb h
          refine x_fieldAddr (xv := .pointer (some ⟨b4, 0, none⟩)) (.pointer (some ⟨b4, 0, none⟩)) rfl rfl rfl (reads_field tfld24_0 _ _) ?_
          refine x_load (xv := .pointer (some ⟨b4, 0, none⟩)) (.slice a_p1_0 (p1_0).length c_p1_0) rfl rfl rfl (reads_box tcell22 hb4 nn 0 _ rfl) ?_
          refine x_pure 1 [(35, .int .i64 x_s7_l11)] _ _ _ (by kernel_rfl) ?_
          obtain ⟨x16, hx16, h⟩ := bind_some h
          obtain ⟨ad16, cs16, hr16, hc16, hR⟩ := reads_index (Mo := []) tsl22 hs_p1_0 hx16
          obtain ⟨_, _, rfl, rfl, ⟨_, _, rfl, rfl, ⟨_, _, rfl, rfl, rfl⟩⟩⟩ := hR
          refine x_indexAddr (xv := .slice a_p1_0 (p1_0).length c_p1_0) (yv := .int .i64 x_s7_l11) (.pointer (some ad16)) rfl rfl rfl rfl hr16 ?_
          refine x_fieldAddr (xv := .pointer (some ad16)) (.pointer (some (Addr.add ad16 0))) rfl rfl rfl (reads_field tfld26_0 _ _) ?_
          refine x_load (xv := .pointer (some (Addr.add ad16 0))) (.int .i64 x16.1) rfl rfl rfl (reads_cell tcell3 hc16 (fun _ h => by cases h) 0 _ rfl) ?_
          refine x_pure 3 [(39, .bool (decide (x16.1 < 3))), (40, .bool (decide (x16.1 < 3))), (41, .bool (decide (x16.1 < 3)))] _ _ _ (by kernel_rfl) ?_
          refine x_split 41 (decide (x16.1 < 3)) rfl (fun hb => ?_) (fun hb => ?_)
          · replace h := ite_t hb h
            refine x_fieldAddr (xv := .pointer (some ⟨b4, 0, none⟩)) (.pointer (some ⟨b4, 0, none⟩)) rfl rfl rfl (reads_field tfld24_0 _ _) ?_
            refine x_load (xv := .pointer (some ⟨b4, 0, none⟩)) (.slice a_p1_0 (p1_0).length c_p1_0) rfl rfl rfl (reads_box tcell22 hb4 nn 0 _ rfl) ?_
            refine x_pure 1 [(44, .int .i64 x_s7_l11)] _ _ _ (by kernel_rfl) ?_
            obtain ⟨x18, hx18, h⟩ := bind_some h
            obtain ⟨ad18, cs18, hr18, hc18, hR⟩ := reads_index (Mo := []) tsl22 hs_p1_0 hx18
            obtain ⟨_, _, rfl, rfl, ⟨_, _, rfl, rfl, ⟨_, _, rfl, rfl, rfl⟩⟩⟩ := hR
            refine x_indexAddr (xv := .slice a_p1_0 (p1_0).length c_p1_0) (yv := .int .i64 x_s7_l11) (.pointer (some ad18)) rfl rfl rfl rfl hr18 ?_
            refine x_fieldAddr (xv := .pointer (some ad18)) (.pointer (some (Addr.add ad18 0))) rfl rfl rfl (reads_field tfld26_0 _ _) ?_
            refine x_load (xv := .pointer (some (Addr.add ad18 0))) (.int .i64 x18.1) rfl rfl rfl (reads_cell tcell3 hc18 (fun _ h => by cases h) 0 _ rfl) ?_
            refine x_pure 2 [(48, .bool (decide (x18.1 ≥ 0))), (49, .bool (decide (x18.1 ≥ 0)))] _ _ _ (by kernel_rfl) ?_
            refine x_end rfl ?_
            exact k_then ⟨decide (x18.1 ≥ 0), ⟨rfl, rfl, rfl, rfl, rfl, rfl, trivial⟩, h, hev, hms, hfr, hs_p0_0, hb_p0, hs_p1_0, hb4, ho6⟩
          replace h := ite_f hb h
          refine x_pure 8 [(42, undef), (43, undef), (44, undef), (45, undef), (46, undef), (47, undef), (48, undef), (49, .bool false)] _ _ _ (by kernel_rfl) ?_
          refine x_end rfl ?_
          exact k_then ⟨false, ⟨rfl, rfl, rfl, rfl, rfl, rfl, trivial⟩, h, hev, hms, hfr, hs_p0_0, hb_p0, hs_p1_0, hb4, ho6⟩
        replace h := ite_f hb h
        refine x_pure 17 [(33, undef), (34, undef), (35, undef), (36, undef), (37, undef), (38, undef), (39, undef), (40, .bool false), (41, .bool false), (42, undef), (43, undef), (44, undef), (45, undef), (46, undef), (47, undef), (48, undef), (49, .bool false)] _ _ _ (by kernel_rfl) ?_
        refine x_end rfl ?_
        exact k_then ⟨false, ⟨rfl, rfl, rfl, rfl, rfl, rfl, trivial⟩, h, hev, hms, hfr, hs_p0_0, hb_p0, hs_p1_0, hb4, ho6⟩
      rintro t49__s49_j13 J wj13 ⟨h, hev, hms, hfr, hs_p0_0, hb_p0, hs_p1_0, hb4, ho6⟩
      refine c_cond t49__s49_j13 rfl (fun hb => ?_) (fun hb => ?_)
      · replace h := ite_t hb h
        refine c_seq (c_plain ?_)
        refine x_fieldAddr (xv := .pointer (some ⟨b4, 0, none⟩)) (.pointer (some ⟨b4, 0, none⟩)) rfl rfl rfl (reads_field tfld24_0 _ _) ?_
        refine x_load (xv := .pointer (some ⟨b4, 0, none⟩)) (.slice a_p1_0 (p1_0).length c_p1_0) rfl rfl rfl (reads_box tcell22 hb4 nn 0 _ rfl) ?_
        refine x_pure 1 [(52, .int .i64 x_s7_l11)] _ _ _ (by kernel_rfl) ?_
        obtain ⟨x20, hx20, h⟩ := bind_some h
        obtain ⟨ad20, cs20, hr20, hc20, hR⟩ := reads_index (Mo := []) tsl22 hs_p1_0 hx20
        obtain ⟨_, _, rfl, rfl, ⟨_, _, rfl, rfl, ⟨_, _, rfl, rfl, rfl⟩⟩⟩ := hR
        refine x_indexAddr (xv := .slice a_p1_0 (p1_0).length c_p1_0) (yv := .int .i64 x_s7_l11) (.pointer (some ad20)) rfl rfl rfl rfl hr20 ?_
        refine x_fieldAddr (xv := .pointer (some ad20)) (.pointer (some (Addr.add ad20 0))) rfl rfl rfl (reads_field tfld26_0 _ _) ?_
        refine x_load (xv := .pointer (some (Addr.add ad20 0))) (.int .i64 x20.1) rfl rfl rfl (reads_cell tcell3 hc20 (fun _ h => by cases h) 0 _ rfl) ?_
        refine x_pure 1 [(8, .int .i64 x20.1)] _ _ _ (by kernel_rfl) ?_
        refine x_end rfl (k_then ?_)
        refine c_norm [(0, .pointer (some ⟨b_p0, 0, none⟩)), (3, .pointer (some ⟨b4, 0, none⟩)), (5, .slice a6 (d7_l11).length c6), (6, .int .i64 b_s6_l9), (7, .int .i64 x_s7_l11), (8, .int .i64 x20.1)] ⟨rfl, rfl, rfl, rfl, rfl, rfl, trivial⟩ (fun J => ?_)
        refine c_plain ?_
        refine x_pure 4 [(56, .slice a6 (d7_l11).length c6), (57, .int .i64 x20.1), (58, .slice a6 (d7_l11).length c6), (59, .int .i64 x20.1)] _ _ _ (by kernel_rfl) ?_
        obtain ⟨x22, hx22, h⟩ := bind_some h
        obtain ⟨g22, ai22, ci22, hr22, hv22⟩ := OwnR.view (P := Try.prog) (Mo := []) tsl37 ho6 hx22
        refine x_indexAddr (xv := .slice a6 (d7_l11).length c6) (yv := .int .i64 x20.1) (.pointer (some ⟨g22, (Int.toNat x20.1), none⟩)) rfl rfl rfl rfl hr22 ?_
        refine x_load (xv := .pointer (some ⟨g22, (Int.toNat x20.1), none⟩)) (.slice ai22 (x22).length ci22) rfl rfl rfl (RView.load tcell27 hv22) ?_
        refine x_pure 1 [(62, .int .i64 x_s7_l11)] _ _ _ (by kernel_rfl) ?_
        refine x_buildSlice (vs := [(0, .int .i64 x_s7_l11)]) #[.int .i64 x_s7_l11] 3 rfl rfl rfl (by kernel_rfl) (fun b24 w24 hq24 hb24 he24 hz24 => ?_)
        refine ⟨.inl rfl, ?_⟩
        have hms0 := hms
        have hst := Stp.ext (ls := [[b4], B7_l11, [b_p0], M]) he24
        replace hb_p0 := he24.box hb_p0 nn
        replace hs_p0_0 := hs_p0_0.step hst
        replace hb4 := he24.box hb4 nn
        replace hs_p1_0 := hs_p1_0.step hst
        replace ho6 := ho6.step (plain_int _) he24 nn2
        replace hv22 := hv22.step (plain_int _) he24 nn2
        replace hms := hms.ev he24
        replace hev := hev.ext he24
        have hs24 : SlR (eInt .i64) w24 (fl [[b4], B7_l11, [b_p0], M]) (some ⟨b24, 0, none⟩) 1 ([x_s7_l11]) := ro_of_box hms0 hq24 hb24 rfl rfl (cells_at (cs := [.int .i64 x_s7_l11]) (CellsOf.cons (c := [.int .i64 x_s7_l11]) rfl CellsOf.nil))
        clear hb24 hms0
        obtain ⟨B26, hR26, ho26, hs1, hs2, hs3⟩ := OwnR.opn ho6 hv22
        replace ho6 := hR26
        have hms2 := hms.split 1 rfl hs2 hs1 hs3
        have hsu : ∀ x ∈ fl [blk ai22, [b4], B26, [b_p0], M], x ∈ fl [[b4], B7_l11, [b_p0], M] := split_sub (ls := [[b4], B7_l11, [b_p0], M]) 1 rfl hs2 hs1
        replace hms : MS w24 [blk ai22, [b4], B26, [b_p0], M] := hms2
        replace hfr : FR w.heap.size [blk ai22, [b4], B26] := (hfr.upd 1 rfl hev.size (fun b hb => .inl (hs1 b hb))).push (fun b hb => hfr.at 1 rfl b (hs2 b hb))
        replace hs_p0_0 := hs_p0_0.sub hsu
        replace hs_p1_0 := hs_p1_0.sub hsu
        replace hs24 := hs24.sub hsu
        replace ho26 := OwnS.plain (M' := fl [blk ai22, [b4], B26, [b_p0], M]) (plain_int _) ho26
        have hg26 := hv22.eq
        have hx26 := hv22.at_
        clear hv22 hms2 hs1 hs2 hs3 hsu
        have hg := guard_l h
        replace h := guard_r h
        obtain ⟨a28, c28, w28, hr28, he28, hn28, hm28, hw28⟩ := own_appendN tel27 27 ho26 (mem_flat 0 rfl) hs24 hg
        refine x_builtin (vs := [.slice ai22 (x22).length ci22, .slice (some ⟨b24, 0, none⟩) ([x_s7_l11]).length 1]) _ w28 rfl rfl rfl rfl (run_value _ _ _ _ hr28) ?_
        refine ⟨.inl rfl, ?_⟩
        have hst : Stp (fl [blk ai22, [b4], B26, [b_p0], M]) w24 (fl [blk a28, [b4], B26, [b_p0], M]) w28 := Stp.upd 0 he28 rfl (fun b hb => (hn28 b hb).1)
        replace hb_p0 := he28.box hb_p0 (hms.apart 3 0 rfl rfl rfl _ (List.mem_singleton.2 rfl))
        replace hs_p0_0 := hs_p0_0.step hst
        replace hb4 := he28.box hb4 (hms.apart 1 0 rfl rfl rfl _ (List.mem_singleton.2 rfl))
        replace hs_p1_0 := hs_p1_0.step hst
        replace ho6 := ho6.step (plain_int _) he28 (hms.apart 2 0 rfl rfl rfl)
        replace hs24 := hs24.step hst
        replace hms : MS w28 [blk a28, [b4], B26, [b_p0], M] := hms.upd 0 he28 rfl hn28
        have hfr2 : FR w.heap.size [blk a28, [b4], B26] := hfr.upd 0 rfl hev.size (fun b hb => (hn28 b hb).1)
        replace hev := hev.then he28 (fun b hb => .inr (hfr.at 0 rfl b hb))
        replace hfr := hfr2
        clear hfr2
        replace ho26 := hw28 (fl [blk a28, [b4], B26, [b_p0], M]) hst.new
        clear hw28
        obtain ⟨x29, hx29, h⟩ := bind_some h
        obtain ⟨g29, hg29, hr29, hy29⟩ := OwnR.addr (P := Try.prog) (Mo := []) tsl37 ho6 hx29
        refine x_indexAddr (xv := .slice a6 (d7_l11).length c6) (yv := .int .i64 x20.1) (.pointer (some ⟨g29, (Int.toNat x20.1), none⟩)) rfl rfl rfl rfl hr29 ?_
        obtain ⟨w31, B31, hr31, he31, hn31, hR31⟩ := OwnR.cls (P := Try.prog) (plain_int _) tcell27 ho6 hg29 hy29 ho26 (hms.apart 0 2 rfl rfl rfl) (hms.ltat 2 rfl)
        refine x_store w31 (xv := .pointer (some ⟨g29, (Int.toNat x20.1), none⟩)) (yv := .slice a28 ((x22 ++ [x_s7_l11])).length c28) rfl rfl rfl rfl hr31 ?_
        refine ⟨.inl rfl, ?_⟩
        have hms2 := hms.merge (C := blk a28 ++ B26) 0 2 rfl rfl (fun x hx => List.mem_append.1 hx)
        replace hfr : FR w.heap.size [[b4], blk a28 ++ B26] := (FR.cons (hfr.at 1 rfl) (FR.cons (fun b hb => (List.mem_append.1 hb).elim (hfr.at 0 rfl b) (hfr.at 2 rfl b)) (FR.nil _)))
        have hsu : ∀ x ∈ fl [[b4], blk a28 ++ B26, [b_p0], M], x ∈ fl [blk a28, [b4], B26, [b_p0], M] := merge_sub (ls := [blk a28, [b4], B26, [b_p0], M]) (C := blk a28 ++ B26) 0 2 rfl rfl (fun x hx => List.mem_append.1 hx)
        replace hms : MS w28 [[b4], blk a28 ++ B26, [b_p0], M] := hms2
        replace hs_p0_0 := hs_p0_0.sub hsu
        replace hs_p1_0 := hs_p1_0.sub hsu
        replace hs24 := hs24.sub hsu
        clear hms2 hsu
        have hst : Stp (fl [[b4], blk a28 ++ B26, [b_p0], M]) w28 (fl [[b4], B31, [b_p0], M]) w31 := Stp.upd 1 he31 rfl (fun b hb => (hn31 b hb).1)
        replace hb_p0 := he31.box hb_p0 (hms.apart 2 1 rfl rfl rfl _ (List.mem_singleton.2 rfl))
        replace hs_p0_0 := hs_p0_0.step hst
        replace hb4 := he31.box hb4 (hms.apart 0 1 rfl rfl rfl _ (List.mem_singleton.2 rfl))
        replace hs_p1_0 := hs_p1_0.step hst
        replace hs24 := hs24.step hst
        replace hms : MS w31 [[b4], B31, [b_p0], M] := hms.upd 1 he31 rfl hn31
        have hfr2 : FR w.heap.size [[b4], B31] := hfr.upd 1 rfl hev.size (fun b hb => (hn31 b hb).1)
        replace hev := hev.then he31 (fun b hb => .inr (hfr.at 1 rfl b hb))
        replace hfr := hfr2
        clear hfr2
        replace ho6 := hR31
        have hsl : (Value.slice a6 (d7_l11).length c6) = (Value.slice a6 ((d7_l11.set (Int.toNat x20.1) (x22 ++ [x_s7_l11]))).length c6) := by first | (rw [List.length_set]; done) | simp only [List.length_set]
        try rw [hsl]
        clear hsl
        refine x_end rfl ?_
        refine k_block ?_
        refine k_then ?_
        refine c_plain ?_
        refine x_pure 3 [(22, .int .i64 x_s7_l11), (23, .int .i64 (IntKind.i64.wrap (x_s7_l11 + 1))), (7, .int .i64 (IntKind.i64.wrap (x_s7_l11 + 1)))] _ _ _ (by kernel_rfl) ?_
        refine x_end rfl ?_
        have hx := some_inj h
        subst hx
        exact k_then ⟨(m11, (d7_l11.set (Int.toNat x20.1) (x22 ++ [x_s7_l11])), IntKind.i64.wrap (x_s7_l11 + 1), B31), ⟨rfl, rfl, rfl, rfl, rfl, trivial⟩, ⟨hn11, hev, hms, hfr, hs_p0_0, hb_p0, hs_p1_0, hb4, ho6⟩, Nat.lt_succ_self _⟩
      replace h := ite_f hb h
      refine c_skip ?_
      refine k_block ?_
      refine k_then ?_
      refine c_norm [(0, .pointer (some ⟨b_p0, 0, none⟩)), (3, .pointer (some ⟨b4, 0, none⟩)), (5, .slice a6 (d7_l11).length c6), (6, .int .i64 b_s6_l9), (7, .int .i64 x_s7_l11)] ⟨rfl, rfl, rfl, rfl, rfl, trivial⟩ (fun J => ?_)
      refine c_plain ?_
      refine x_pure 3 [(22, .int .i64 x_s7_l11), (23, .int .i64 (IntKind.i64.wrap (x_s7_l11 + 1))), (7, .int .i64 (IntKind.i64.wrap (x_s7_l11 + 1)))] _ _ _ (by kernel_rfl) ?_
      refine x_end rfl ?_
      have hx := some_inj h
      subst hx
      exact k_then ⟨(m11, d7_l11, IntKind.i64.wrap (x_s7_l11 + 1), B7_l11), ⟨rfl, rfl, rfl, rfl, rfl, trivial⟩, ⟨hn11, hev, hms, hfr, hs_p0_0, hb_p0, hs_p1_0, hb4, ho6⟩, Nat.lt_succ_self _⟩
    replace h := ite_f hb h
    refine c_exit ?_
    refine k_then_exit ?_
    have hx := some_inj h
    subst hx
    have hy := some_inj hn11
    subst hy
    replace h := h11
    refine k_then_exit ?_
    refine k_block_in ?_
    refine k_block ?_
    refine k_then ?_
    refine c_norm [(0, .pointer (some ⟨b_p0, 0, none⟩)), (3, .pointer (some ⟨b4, 0, none⟩)), (5, .slice a6 (d7_l11).length c6), (6, .int .i64 b_s6_l9)] ⟨rfl, rfl, rfl, rfl, trivial⟩ (fun J => ?_)
    refine c_plain ?_
    refine x_pure 3 [(15, .int .i64 b_s6_l9), (16, .int .i64 (IntKind.i64.wrap (b_s6_l9 + 1))), (6, .int .i64 (IntKind.i64.wrap (b_s6_l9 + 1)))] _ _ _ (by kernel_rfl) ?_
    refine x_end rfl ?_
    have hx := some_inj h
    subst hx
    exact k_then ⟨(m9, d7_l11, IntKind.i64.wrap (b_s6_l9 + 1), B7_l11), ⟨rfl, rfl, rfl, rfl, trivial⟩, ⟨hn9, hev, hms, hfr, hs_p0_0, hb_p0, hs_p1_0, hb4, ho6⟩, Nat.lt_succ_self _⟩
  replace h := ite_f hb h
  refine c_exit ?_
  refine k_then_exit ?_
  have hx := some_inj h
  subst hx
  have hy := some_inj hn9
  subst hy
  replace h := h9
  refine k_then_exit ?_
  refine k_block_in ?_
  refine k_then ?_
  refine c_norm [(0, .pointer (some ⟨b_p0, 0, none⟩)), (3, .pointer (some ⟨b4, 0, none⟩)), (5, .slice a6 (d7_l9).length c6)] ⟨rfl, rfl, rfl, trivial⟩ (fun J => ?_)
  refine c_join (σ := Int × (List (List Int))) (fun s => match s with | (e2_j32_1, d7_j32) => [(0, .pointer (some ⟨b_p0, 0, none⟩)), (3, .pointer (some ⟨b4, 0, none⟩)), (5, .slice a6 (d7_j32).length c6)]) (fun s w' => match s with | (e2_j32_1, d7_j32) => law11_order_J32 p0_0 p1_0 e2_j32_1 d7_j32 = some r ∧ Ev [b_p0] w w' ∧ MS w' [[b4], B7_l9, [b_p0], M] ∧ FR w.heap.size [[b4], B7_l9] ∧ SlR (eInt .i64) w' (fl [[b4], B7_l9, [b_p0], M]) a_p0_0 c_p0_0 p0_0 ∧ w'.heap[b_p0]? = some (.cells #[.slice a_p0_0 (p0_0).length c_p0_0, .int .i64 e2_j32_1] 54 (0, 0)) ∧ SlR (eProd (eInt .i64) (eProd (eInt .i64) (eProd (eInt .i64) (eInt .i64)))) w' (fl [[b4], B7_l9, [b_p0], M]) a_p1_0 c_p1_0 p1_0 ∧ w'.heap[b4]? = some (.cells #[.slice a_p1_0 (p1_0).length c_p1_0, .int .i64 p1_1] 24 (0, 0)) ∧ OwnR (eInt .i64) 3 27 w' B7_l9 a6 c6 d7_j32 none) ?_ ?_
  · refine c_seq (c_plain ?_)
    refine x_pure 1 [(66, .pointer (some ⟨b_p0, 0, none⟩))] _ _ _ (by kernel_rfl) ?_
    obtain ⟨x33, hx, h⟩ := bind_some h
    have hpk : MS wl9 ([[b_p0]] ++ [[b4], B7_l9, M]) := hms.pick [some 2, some 0, some 1, some 3] _ rfl
    have hsb0 : ∀ x ∈ fl ([[b_p0]] ++ [[b4], B7_l9, M]), x ∈ fl [[b4], B7_l9, [b_p0], M] := pick_sub [some 2, some 0, some 1, some 3] _ rfl
    have hsb : ∀ x ∈ fl ([[b_p0]] ++ [(fl [[b4], B7_l9, M])]), x ∈ fl [[b4], B7_l9, [b_p0], M] := fun x hx => hsb0 x (fl_unfold x hx)
    have hcall := gen_Maker_Next_w b_p0 a_p0_0 c_p0_0 p0_0 p0_1 3 _ wl9 (fl [[b4], B7_l9, M]) (hpk.fold (P := [[b_p0]])) (hs_p0_0.sub hsb) hb_p0 hx
    refine x_call 24 #[] #[] [.pointer (some ⟨b_p0, 0, none⟩), .int .i64 3] _ rfl rfl rfl rfl hcall ?_
    rintro v w34 ⟨rfl, he34, hp34_0⟩
    clear hcall hx
    refine ⟨.inl rfl, ?_⟩
    have hpk2 : MS wl9 ([[b_p0]] ++ [[b4], B7_l9, M]) := hms.pick [some 2, some 0, some 1, some 3] _ rfl
    have hsb2 : ∀ x ∈ fl ([[b_p0]] ++ [[b4], B7_l9, M]), x ∈ fl [[b4], B7_l9, [b_p0], M] := pick_sub [some 2, some 0, some 1, some 3] _ rfl
    have hst0 := Stp.call (LS := [[b4], B7_l9, [b_p0], M]) (res := []) (par := [[b_p0]]) (R := [[b4], B7_l9, M]) he34 (fun b hb => hsb2 b (fl_left' (P := [[b_p0]]) b hb)) (FR.nil _) (NP.init _ _) (fun x hx => hsb2 x (fl_right' (P := [[b_p0]]) x hx))
    have hsn : ∀ x ∈ fl [[b4], B7_l9, [b_p0], M], x ∈ fl ([] ++ ([[b_p0]] ++ [[b4], B7_l9, M])) := pick_sub [some 1, some 2, some 0, some 3] _ rfl
    have hst := hst0.res hsn
    replace hs_p0_0 := hs_p0_0.step hst
    replace hb4 := he34.box hb4 ((MS.outs (P := [[b_p0]]) hpk2 0 rfl) _ (List.mem_singleton.2 rfl))
    replace hs_p1_0 := hs_p1_0.step hst
    replace ho6 := ho6.step (plain_int _) he34 (MS.outs (P := [[b_p0]]) hpk2 1 rfl)
    replace hms := hms.ev he34
    replace hev := hev.then he34 (fun b hb => .inl (by simpa using hb))
    replace hb_p0 := hp34_0
    clear hpk hsb hsb0 hpk2 hsb2 hst0 hsn hst
    refine x_pure 1 [(68, .bool (x33.1 == 0))] _ _ _ (by kernel_rfl) ?_
    refine x_end rfl (k_then ?_)
    refine c_cond (x33.1 == 0) rfl (fun hb => ?_) (fun hb => ?_)
    · replace h := ite_t hb h
      refine c_seq (c_plain ?_)
      refine x_pure 1 [(69, .pointer (some ⟨b_p0, 0, none⟩))] _ _ _ (by kernel_rfl) ?_
      obtain ⟨x35, hx, h⟩ := bind_some h
      have hpk : MS w34 ([[b_p0]] ++ [[b4], B7_l9, M]) := hms.pick [some 2, some 0, some 1, some 3] _ rfl
      have hsb0 : ∀ x ∈ fl ([[b_p0]] ++ [[b4], B7_l9, M]), x ∈ fl [[b4], B7_l9, [b_p0], M] := pick_sub [some 2, some 0, some 1, some 3] _ rfl
      have hsb : ∀ x ∈ fl ([[b_p0]] ++ [(fl [[b4], B7_l9, M])]), x ∈ fl [[b4], B7_l9, [b_p0], M] := fun x hx => hsb0 x (fl_unfold x hx)
      have hcall := gen_Maker_Next_w b_p0 a_p0_0 c_p0_0 p0_0 x33.2 3 _ w34 (fl [[b4], B7_l9, M]) (hpk.fold (P := [[b_p0]])) (hs_p0_0.sub hsb) hb_p0 hx
      refine x_call 24 #[] #[] [.pointer (some ⟨b_p0, 0, none⟩), .int .i64 3] _ rfl rfl rfl rfl hcall ?_
      rintro v w36 ⟨rfl, he36, hp36_0⟩
      clear hcall hx
      refine ⟨.inl rfl, ?_⟩
      have hpk2 : MS w34 ([[b_p0]] ++ [[b4], B7_l9, M]) := hms.pick [some 2, some 0, some 1, some 3] _ rfl
      have hsb2 : ∀ x ∈ fl ([[b_p0]] ++ [[b4], B7_l9, M]), x ∈ fl [[b4], B7_l9, [b_p0], M] := pick_sub [some 2, some 0, some 1, some 3] _ rfl
      have hst0 := Stp.call (LS := [[b4], B7_l9, [b_p0], M]) (res := []) (par := [[b_p0]]) (R := [[b4], B7_l9, M]) he36 (fun b hb => hsb2 b (fl_left' (P := [[b_p0]]) b hb)) (FR.nil _) (NP.init _ _) (fun x hx => hsb2 x (fl_right' (P := [[b_p0]]) x hx))
      have hsn : ∀ x ∈ fl [[b4], B7_l9, [b_p0], M], x ∈ fl ([] ++ ([[b_p0]] ++ [[b4], B7_l9, M])) := pick_sub [some 1, some 2, some 0, some 3] _ rfl
      have hst := hst0.res hsn
      replace hs_p0_0 := hs_p0_0.step hst
      replace hb4 := he36.box hb4 ((MS.outs (P := [[b_p0]]) hpk2 0 rfl) _ (List.mem_singleton.2 rfl))
      replace hs_p1_0 := hs_p1_0.step hst
      replace ho6 := ho6.step (plain_int _) he36 (MS.outs (P := [[b_p0]]) hpk2 1 rfl)
      replace hms := hms.ev he36
      replace hev := hev.then he36 (fun b hb => .inl (by simpa using hb))
      replace hb_p0 := hp36_0
      clear hpk hsb hsb0 hpk2 hsb2 hst0 hsn hst
      refine x_pure 1 [(9, .int .i64 x35.1)] _ _ _ (by kernel_rfl) ?_
      refine x_end rfl (k_then ?_)
      refine c_seq (c_plain ?_)
      refine x_pure 2 [(71, .slice a6 (d7_l9).length c6), (72, .int .i64 x35.1)] _ _ _ (by kernel_rfl) ?_
      obtain ⟨x37, hx37, h⟩ := bind_some h
      obtain ⟨g37, ai37, ci37, hr37, hv37⟩ := OwnR.view (P := Try.prog) (Mo := []) tsl37 ho6 hx37
      refine x_indexAddr (xv := .slice a6 (d7_l9).length c6) (yv := .int .i64 x35.1) (.pointer (some ⟨g37, (Int.toNat x35.1), none⟩)) rfl rfl rfl rfl hr37 ?_
      refine x_load (xv := .pointer (some ⟨g37, (Int.toNat x35.1), none⟩)) (.slice ai37 (x37).length ci37) rfl rfl rfl (RView.load tcell27 hv37) ?_
      refine x_len (vs := [.slice ai37 (x37).length ci37]) (.int .i64 ((x37).length : Int)) rfl rfl rfl (reads_len tsl27 _ _ _ _ _) ?_
      refine x_pure 1 [(10, .int .i64 ((x37).length : Int))] _ _ _ (by kernel_rfl) ?_
      refine x_end rfl (k_then ?_)
      refine c_seq (c_plain ?_)
      refine x_pure 2 [(76, .int .i64 ((x37).length : Int)), (77, .bool (decide (((x37).length : Int) > 1)))] _ _ _ (by kernel_rfl) ?_
      refine x_end rfl (k_then ?_)
      refine c_norm [(0, .pointer (some ⟨b_p0, 0, none⟩)), (3, .pointer (some ⟨b4, 0, none⟩)), (5, .slice a6 (d7_l9).length c6), (9, .int .i64 x35.1), (10, .int .i64 ((x37).length : Int)), (77, .bool (decide (((x37).length : Int) > 1)))] ⟨rfl, rfl, rfl, rfl, rfl, rfl, trivial⟩ (fun J => ?_)
      refine c_cond (decide (((x37).length : Int) > 1)) rfl (fun hb => ?_) (fun hb => ?_)
      · replace h := ite_t hb h
        refine c_seq (c_plain ?_)
        refine x_pure 3 [(78, .pointer (some ⟨b_p0, 0, none⟩)), (79, .int .i64 ((x37).length : Int)), (80, .int .i64 (IntKind.i64.wrap (((x37).length : Int) - 1)))] _ _ _ (by kernel_rfl) ?_
        obtain ⟨x39, hx, h⟩ := bind_some h
        have hpk : MS w36 ([[b_p0]] ++ [[b4], B7_l9, M]) := hms.pick [some 2, some 0, some 1, some 3] _ rfl
        have hsb0 : ∀ x ∈ fl ([[b_p0]] ++ [[b4], B7_l9, M]), x ∈ fl [[b4], B7_l9, [b_p0], M] := pick_sub [some 2, some 0, some 1, some 3] _ rfl
        have hsb : ∀ x ∈ fl ([[b_p0]] ++ [(fl [[b4], B7_l9, M])]), x ∈ fl [[b4], B7_l9, [b_p0], M] := fun x hx => hsb0 x (fl_unfold x hx)
        have hcall := gen_Maker_Next_w b_p0 a_p0_0 c_p0_0 p0_0 x35.2 (IntKind.i64.wrap (((x37).length : Int) - 1)) _ w36 (fl [[b4], B7_l9, M]) (hpk.fold (P := [[b_p0]])) (hs_p0_0.sub hsb) hb_p0 hx
        refine x_call 24 #[] #[] [.pointer (some ⟨b_p0, 0, none⟩), .int .i64 (IntKind.i64.wrap (((x37).length : Int) - 1))] _ rfl rfl rfl rfl hcall ?_
        rintro v w40 ⟨rfl, he40, hp40_0⟩
        clear hcall hx
        refine ⟨.inl rfl, ?_⟩
        have hpk2 : MS w36 ([[b_p0]] ++ [[b4], B7_l9, M]) := hms.pick [some 2, some 0, some 1, some 3] _ rfl
        have hsb2 : ∀ x ∈ fl ([[b_p0]] ++ [[b4], B7_l9, M]), x ∈ fl [[b4], B7_l9, [b_p0], M] := pick_sub [some 2, some 0, some 1, some 3] _ rfl
        have hst0 := Stp.call (LS := [[b4], B7_l9, [b_p0], M]) (res := []) (par := [[b_p0]]) (R := [[b4], B7_l9, M]) he40 (fun b hb => hsb2 b (fl_left' (P := [[b_p0]]) b hb)) (FR.nil _) (NP.init _ _) (fun x hx => hsb2 x (fl_right' (P := [[b_p0]]) x hx))
        have hsn : ∀ x ∈ fl [[b4], B7_l9, [b_p0], M], x ∈ fl ([] ++ ([[b_p0]] ++ [[b4], B7_l9, M])) := pick_sub [some 1, some 2, some 0, some 3] _ rfl
        have hst := hst0.res hsn
        replace hs_p0_0 := hs_p0_0.step hst
        replace hb4 := he40.box hb4 ((MS.outs (P := [[b_p0]]) hpk2 0 rfl) _ (List.mem_singleton.2 rfl))
        replace hs_p1_0 := hs_p1_0.step hst
        replace ho6 := ho6.step (plain_int _) he40 (MS.outs (P := [[b_p0]]) hpk2 1 rfl)
        replace hms := hms.ev he40
        replace hev := hev.then he40 (fun b hb => .inl (by simpa using hb))
        replace hb_p0 := hp40_0
        clear hpk hsb hsb0 hpk2 hsb2 hst0 hsn hst
        refine x_pure 1 [(11, .int .i64 x39.1)] _ _ _ (by kernel_rfl) ?_
        refine x_end rfl (k_then ?_)
        refine c_drawn (B7_l9) [(0, true), (1, true), (2, true), (3, true), (4, true), (5, false), (6, false), (7, false), (8, true), (9, false), (10, false), (11, true), (12, true), (13, true), (14, true), (15, true), (16, true), (17, true), (18, true), (19, false), (20, false), (21, false), (22, true), (23, false), (24, false), (25, true), (26, true), (27, false), (28, true), (29, true)] _ (by kernel_rfl) rfl ?_
        have hst := Stp.ext (ls := [[b4], B7_l9, [b_p0], M]) (Ev.drew w40)
        replace hb_p0 := (Ev.drew w40).box hb_p0 nn
        replace hs_p0_0 := hs_p0_0.step hst
        replace hb4 := (Ev.drew w40).box hb4 nn
        replace hs_p1_0 := hs_p1_0.step hst
        replace ho6 := ho6.step (plain_int _) (Ev.drew w40) nn2
        replace hms := hms.ev (Ev.drew w40)
        replace hev := hev.ext (Ev.drew w40)
        refine x_pure 2 [(82, .slice a6 (d7_l9).length c6), (83, .int .i64 x35.1)] _ _ _ (by kernel_rfl) ?_
        obtain ⟨x41, hx41, h⟩ := bind_some h
        obtain ⟨g41, ai41, ci41, hr41, hv41⟩ := OwnR.view (P := Try.prog) (Mo := []) tsl37 ho6 hx41
        refine x_indexAddr (xv := .slice a6 (d7_l9).length c6) (yv := .int .i64 x35.1) (.pointer (some ⟨g41, (Int.toNat x35.1), none⟩)) rfl rfl rfl rfl hr41 ?_
        refine x_load (xv := .pointer (some ⟨g41, (Int.toNat x35.1), none⟩)) (.slice ai41 (x41).length ci41) rfl rfl rfl (RView.load tcell27 hv41) ?_
        refine x_pure 3 [(86, .int .i64 x39.1), (87, .slice a6 (d7_l9).length c6), (88, .int .i64 x35.1)] _ _ _ (by kernel_rfl) ?_
        obtain ⟨x43, hx43, h⟩ := bind_some h
        obtain ⟨g43, ai43, ci43, hr43, hv43⟩ := OwnR.view (P := Try.prog) (Mo := (B7_l9)) tsl37 ho6 hx43
        refine x_indexAddr (xv := .slice a6 (d7_l9).length c6) (yv := .int .i64 x35.1) (.pointer (some ⟨g43, (Int.toNat x35.1), none⟩)) rfl rfl rfl rfl hr43 ?_
        refine x_load (xv := .pointer (some ⟨g43, (Int.toNat x35.1), none⟩)) (.slice ai43 (x43).length ci43) rfl rfl rfl (RView.load tcell27 hv43) ?_
        refine x_pure 4 [(91, .int .i64 x39.1), (92, .int .i64 (IntKind.i64.wrap (x39.1 + 1))), (93, .slice a6 (d7_l9).length c6), (94, .int .i64 x35.1)] _ _ _ (by kernel_rfl) ?_
        obtain ⟨x45, hx45, h⟩ := bind_some h
        obtain ⟨g45, ai45, ci45, hr45, hv45⟩ := OwnR.view (P := Try.prog) (Mo := []) tsl37 ho6 hx45
        refine x_indexAddr (xv := .slice a6 (d7_l9).length c6) (yv := .int .i64 x35.1) (.pointer (some ⟨g45, (Int.toNat x35.1), none⟩)) rfl rfl rfl rfl hr45 ?_
        refine x_load (xv := .pointer (some ⟨g45, (Int.toNat x35.1), none⟩)) (.slice ai45 (x45).length ci45) rfl rfl rfl (RView.load tcell27 hv45) ?_
        refine x_pure 2 [(97, .int .i64 x39.1), (98, .int .i64 (IntKind.i64.wrap (x39.1 + 1)))] _ _ _ (by kernel_rfl) ?_
        obtain ⟨x47, hx47, h⟩ := bind_some h
        obtain ⟨ad47, cs47, hr47, hc47, hR, hB47, hae47⟩ := RView.elem (P := Try.prog) (Mo := []) tsl27 hv45 hx47
        obtain rfl := hR
        refine x_indexAddr (xv := .slice ai45 (x45).length ci45) (yv := .int .i64 (IntKind.i64.wrap (x39.1 + 1))) (.pointer (some ad47)) rfl rfl rfl rfl hr47 ?_
        refine x_load (xv := .pointer (some ad47)) (.int .i64 x47) rfl rfl rfl (reads_cell0 tcell3 hc47 (fun b hb => hb)) ?_
        refine x_pure 2 [(101, .slice a6 (d7_l9).length c6), (102, .int .i64 x35.1)] _ _ _ (by kernel_rfl) ?_
        obtain ⟨x49, hx49, h⟩ := bind_some h
        obtain ⟨g49, ai49, ci49, hr49, hv49⟩ := OwnR.view (P := Try.prog) (Mo := (B7_l9)) tsl37 ho6 hx49
        refine x_indexAddr (xv := .slice a6 (d7_l9).length c6) (yv := .int .i64 x35.1) (.pointer (some ⟨g49, (Int.toNat x35.1), none⟩)) rfl rfl rfl rfl hr49 ?_
        refine x_load (xv := .pointer (some ⟨g49, (Int.toNat x35.1), none⟩)) (.slice ai49 (x49).length ci49) rfl rfl rfl (RView.load tcell27 hv49) ?_
        refine x_pure 1 [(105, .int .i64 x39.1)] _ _ _ (by kernel_rfl) ?_
        obtain ⟨x51, hx51, h⟩ := bind_some h
        obtain ⟨ad51, cs51, hr51, hc51, hR, hB51, hae51⟩ := RView.elem (P := Try.prog) (Mo := (B7_l9)) tsl27 hv49 hx51
        obtain rfl := hR
        refine x_indexAddr (xv := .slice ai49 (x49).length ci49) (yv := .int .i64 x39.1) (.pointer (some ad51)) rfl rfl rfl rfl hr51 ?_
        refine x_load (xv := .pointer (some ad51)) (.int .i64 x51) rfl rfl rfl (reads_cell0 tcell3 hc51 (fun b hb => hb)) ?_
        obtain ⟨x53, hx53, h⟩ := bind_some h
        obtain ⟨ad53, cs53, hr53, hc53, hR, hB53, hae53⟩ := RView.elem (P := Try.prog) (Mo := []) tsl27 hv41 hx53
        obtain rfl := hR
        refine x_indexAddr (xv := .slice ai41 (x41).length ci41) (yv := .int .i64 x39.1) (.pointer (some ad53)) rfl rfl rfl rfl hr53 ?_
        have hu55_44 := RView.uniq hv41 hv43
        have hu55_46 := RView.uniq hv41 hv45
        have hu55_50 := RView.uniq hv41 hv49
        obtain ⟨w55, hr55, he55, hv55, ho55⟩ := RView.store (P := Try.prog) (y := x47) (.int .i64 x47) (plain_int _) tcell3 ho6 hv41 hx53 hae53 rfl rfl (fun _ _ _ hR => set_int hR)
        refine x_store w55 (xv := .pointer (some ad53)) (yv := .int .i64 x47) rfl rfl rfl rfl hr55 ?_
        refine ⟨.inr he55, ?_⟩
        have hst := Stp.ev' (ls := [[b4], B7_l9, [b_p0], M]) he55 (mem_flat 1 rfl)
        replace hb_p0 := he55.box hb_p0 (hms.apart 2 1 rfl rfl rfl _ (List.mem_singleton.2 rfl))
        replace hs_p0_0 := hs_p0_0.step hst
        replace hb4 := he55.box hb4 (hms.apart 0 1 rfl rfl rfl _ (List.mem_singleton.2 rfl))
        replace hs_p1_0 := hs_p1_0.step hst
        replace hms := hms.ev he55
        replace hev := hev.then he55 (fun b hb => .inr (hfr.at 1 rfl b hb))
        replace ho6 := ho55
        have hsl : (Value.slice a6 (d7_l9).length c6) = (Value.slice a6 ((d7_l9.set (Int.toNat x35.1) (x41.set (Int.toNat x39.1) x47))).length c6) := by first | (rw [List.length_set]; done) | simp only [List.length_set]
        try rw [hsl]
        clear hsl
        replace hv41 := hv55
        have hsl : (Value.slice ai41 (x41).length ci41) = (Value.slice ai41 ((x41.set (Int.toNat x39.1) x47)).length ci41) := by first | (rw [List.length_set]; done) | simp only [List.length_set]
        try rw [hsl]
        clear hsl
        replace hv43 := hv55.re hu55_44.1
        have hsl : (Value.slice ai43 (x43).length ci43) = (Value.slice ai43 ((x41.set (Int.toNat x39.1) x47)).length ci43) := by first | (rw [List.length_set, hu55_44.2]; done) | simp only [List.length_set, hu55_44.2]
        try rw [hsl]
        clear hsl
        replace hv45 := hv55.re hu55_46.1
        have hsl : (Value.slice ai45 (x45).length ci45) = (Value.slice ai45 ((x41.set (Int.toNat x39.1) x47)).length ci45) := by first | (rw [List.length_set, hu55_46.2]; done) | simp only [List.length_set, hu55_46.2]
        try rw [hsl]
        clear hsl
        replace hv49 := hv55.re hu55_50.1
        have hsl : (Value.slice ai49 (x49).length ci49) = (Value.slice ai49 ((x41.set (Int.toNat x39.1) x47)).length ci49) := by first | (rw [List.length_set, hu55_50.2]; done) | simp only [List.length_set, hu55_50.2]
        try rw [hsl]
        clear hsl
        obtain ⟨x56, hx56, h⟩ := bind_some h
        obtain ⟨ad56, cs56, hr56, hc56, hR, hB56, hae56⟩ := RView.elem (P := Try.prog) (Mo := []) tsl27 hv43 hx56
        obtain rfl := hR
        refine x_indexAddr (xv := .slice ai43 ((x41.set (Int.toNat x39.1) x47)).length ci43) (yv := .int .i64 (IntKind.i64.wrap (x39.1 + 1))) (.pointer (some ad56)) rfl rfl rfl rfl hr56 ?_
        have hu58_42 := RView.uniq hv43 hv41
        have hu58_46 := RView.uniq hv43 hv45
        have hu58_50 := RView.uniq hv43 hv49
        obtain ⟨w58, hr58, he58, hv58, ho58⟩ := RView.store (P := Try.prog) (y := x51) (.int .i64 x51) (plain_int _) tcell3 ho6 hv43 hx56 hae56 rfl rfl (fun _ _ _ hR => set_int hR)
        refine x_store w58 (xv := .pointer (some ad56)) (yv := .int .i64 x51) rfl rfl rfl rfl hr58 ?_
        refine ⟨.inl rfl, ?_⟩
        have hst := Stp.ev' (ls := [[b4], B7_l9, [b_p0], M]) he58 (mem_flat 1 rfl)
        replace hb_p0 := he58.box hb_p0 (hms.apart 2 1 rfl rfl rfl _ (List.mem_singleton.2 rfl))
        replace hs_p0_0 := hs_p0_0.step hst
        replace hb4 := he58.box hb4 (hms.apart 0 1 rfl rfl rfl _ (List.mem_singleton.2 rfl))
        replace hs_p1_0 := hs_p1_0.step hst
        replace hms := hms.ev he58
        replace hev := hev.then he58 (fun b hb => .inr (hfr.at 1 rfl b hb))
        replace ho6 := ho58
        have hsl : (Value.slice a6 ((d7_l9.set (Int.toNat x35.1) (x41.set (Int.toNat x39.1) x47))).length c6) = (Value.slice a6 (((d7_l9.set (Int.toNat x35.1) (x41.set (Int.toNat x39.1) x47)).set (Int.toNat x35.1) ((x41.set (Int.toNat x39.1) x47).set (Int.toNat (IntKind.i64.wrap (x39.1 + 1))) x51))).length c6) := by first | (rw [List.length_set]; done) | simp only [List.length_set]
        try rw [hsl]
        clear hsl
        replace hv43 := hv58
        have hsl : (Value.slice ai43 ((x41.set (Int.toNat x39.1) x47)).length ci43) = (Value.slice ai43 (((x41.set (Int.toNat x39.1) x47).set (Int.toNat (IntKind.i64.wrap (x39.1 + 1))) x51)).length ci43) := by first | (rw [List.length_set]; done) | simp only [List.length_set]
        try rw [hsl]
        clear hsl
        replace hv41 := hv58.re hu58_42.1
        have hsl : (Value.slice ai41 ((x41.set (Int.toNat x39.1) x47)).length ci41) = (Value.slice ai41 (((x41.set (Int.toNat x39.1) x47).set (Int.toNat (IntKind.i64.wrap (x39.1 + 1))) x51)).length ci41) := by first | (rw [List.length_set, hu58_42.2]; done) | simp only [List.length_set, hu58_42.2]
        try rw [hsl]
        clear hsl
        replace hv45 := hv58.re hu58_46.1
        have hsl : (Value.slice ai45 ((x41.set (Int.toNat x39.1) x47)).length ci45) = (Value.slice ai45 (((x41.set (Int.toNat x39.1) x47).set (Int.toNat (IntKind.i64.wrap (x39.1 + 1))) x51)).length ci45) := by first | (rw [List.length_set, hu58_46.2]; done) | simp only [List.length_set, hu58_46.2]
        try rw [hsl]
        clear hsl
        replace hv49 := hv58.re hu58_50.1
        have hsl : (Value.slice ai49 ((x41.set (Int.toNat x39.1) x47)).length ci49) = (Value.slice ai49 (((x41.set (Int.toNat x39.1) x47).set (Int.toNat (IntKind.i64.wrap (x39.1 + 1))) x51)).length ci49) := by first | (rw [List.length_set, hu58_50.2]; done) | simp only [List.length_set, hu58_50.2]
        try rw [hsl]
        clear hsl
        refine x_end rfl ?_
        exact k_then ⟨(x39.2, ((d7_l9.set (Int.toNat x35.1) (x41.set (Int.toNat x39.1) x47)).set (Int.toNat x35.1) ((x41.set (Int.toNat x39.1) x47).set (Int.toNat (IntKind.i64.wrap (x39.1 + 1))) x51))), ⟨rfl, rfl, rfl, trivial⟩, h, hev, hms, hfr, hs_p0_0, hb_p0, hs_p1_0, hb4, ho6⟩
      replace h := ite_f hb h
      refine c_skip ?_
      exact k_then ⟨(x35.2, d7_l9), ⟨rfl, rfl, rfl, trivial⟩, h, hev, hms, hfr, hs_p0_0, hb_p0, hs_p1_0, hb4, ho6⟩
    replace h := ite_f hb h
    refine c_skip ?_
    exact k_then ⟨(x33.2, d7_l9), ⟨rfl, rfl, rfl, trivial⟩, h, hev, hms, hfr, hs_p0_0, hb_p0, hs_p1_0, hb4, ho6⟩
  rintro ⟨e2_j32_1, d7_j32⟩ J wj32 ⟨h, hev, hms, hfr, hs_p0_0, hb_p0, hs_p1_0, hb4, ho6⟩
  refine c_seq ?_
  refine c_seq (c_plain ?_)
  refine x_pure 1 [(110, .pointer (some ⟨b_p0, 0, none⟩))] _ _ _ (by kernel_rfl) ?_
  obtain ⟨x59, hx, h⟩ := bind_some h
  have hpk : MS wj32 ([[b_p0]] ++ [[b4], B7_l9, M]) := hms.pick [some 2, some 0, some 1, some 3] _ rfl
  have hsb0 : ∀ x ∈ fl ([[b_p0]] ++ [[b4], B7_l9, M]), x ∈ fl [[b4], B7_l9, [b_p0], M] := pick_sub [some 2, some 0, some 1, some 3] _ rfl
  have hsb : ∀ x ∈ fl ([[b_p0]] ++ [(fl [[b4], B7_l9, M])]), x ∈ fl [[b4], B7_l9, [b_p0], M] := fun x hx => hsb0 x (fl_unfold x hx)
  have hcall := gen_Maker_Next_w b_p0 a_p0_0 c_p0_0 p0_0 e2_j32_1 6 _ wj32 (fl [[b4], B7_l9, M]) (hpk.fold (P := [[b_p0]])) (hs_p0_0.sub hsb) hb_p0 hx
  refine x_call 24 #[] #[] [.pointer (some ⟨b_p0, 0, none⟩), .int .i64 6] _ rfl rfl rfl rfl hcall ?_
  rintro v w60 ⟨rfl, he60, hp60_0⟩
  clear hcall hx
  refine ⟨.inl rfl, ?_⟩
  have hpk2 : MS wj32 ([[b_p0]] ++ [[b4], B7_l9, M]) := hms.pick [some 2, some 0, some 1, some 3] _ rfl
  have hsb2 : ∀ x ∈ fl ([[b_p0]] ++ [[b4], B7_l9, M]), x ∈ fl [[b4], B7_l9, [b_p0], M] := pick_sub [some 2, some 0, some 1, some 3] _ rfl
  have hst0 := Stp.call (LS := [[b4], B7_l9, [b_p0], M]) (res := []) (par := [[b_p0]]) (R := [[b4], B7_l9, M]) he60 (fun b hb => hsb2 b (fl_left' (P := [[b_p0]]) b hb)) (FR.nil _) (NP.init _ _) (fun x hx => hsb2 x (fl_right' (P := [[b_p0]]) x hx))
  have hsn : ∀ x ∈ fl [[b4], B7_l9, [b_p0], M], x ∈ fl ([] ++ ([[b_p0]] ++ [[b4], B7_l9, M])) := pick_sub [some 1, some 2, some 0, some 3] _ rfl
  have hst := hst0.res hsn
  replace hs_p0_0 := hs_p0_0.step hst
  replace hb4 := he60.box hb4 ((MS.outs (P := [[b_p0]]) hpk2 0 rfl) _ (List.mem_singleton.2 rfl))
  replace hs_p1_0 := hs_p1_0.step hst
  replace ho6 := ho6.step (plain_int _) he60 (MS.outs (P := [[b_p0]]) hpk2 1 rfl)
  replace hms := hms.ev he60
  replace hev := hev.then he60 (fun b hb => .inl (by simpa using hb))
  replace hb_p0 := hp60_0
  clear hpk hsb hsb0 hpk2 hsb2 hst0 hsn hst
  refine x_pure 1 [(112, .bool (x59.1 == 0))] _ _ _ (by kernel_rfl) ?_
  refine x_end rfl (k_then ?_)
  refine c_norm [(0, .pointer (some ⟨b_p0, 0, none⟩)), (3, .pointer (some ⟨b4, 0, none⟩)), (5, .slice a6 (d7_j32).length c6), (112, .bool (x59.1 == 0))] ⟨rfl, rfl, rfl, rfl, trivial⟩ (fun J => ?_)
  refine c_cond (x59.1 == 0) rfl (fun hb => ?_) (fun hb => ?_)
  · replace h := ite_t hb h
    refine c_plain ?_
    refine x_pure 2 [(113, .slice a6 (d7_j32).length c6), (114, .pointer (some ⟨b_p0, 0, none⟩))] _ _ _ (by kernel_rfl) ?_
    refine x_fieldAddr (xv := .pointer (some ⟨b4, 0, none⟩)) (.pointer (some ⟨b4, 0, none⟩)) rfl rfl rfl (reads_field tfld24_0 _ _) ?_
    refine x_load (xv := .pointer (some ⟨b4, 0, none⟩)) (.slice a_p1_0 (p1_0).length c_p1_0) rfl rfl rfl (reads_box tcell22 hb4 nn 0 _ rfl) ?_
    refine x_len (vs := [.slice a_p1_0 (p1_0).length c_p1_0]) (.int .i64 ((p1_0).length : Int)) rfl rfl rfl (reads_len tsl22 _ _ _ _ _) ?_
    obtain ⟨x61, hx, h⟩ := bind_some h
    have hpk : MS w60 ([[b_p0]] ++ [[b4], B7_l9, M]) := hms.pick [some 2, some 0, some 1, some 3] _ rfl
    have hsb0 : ∀ x ∈ fl ([[b_p0]] ++ [[b4], B7_l9, M]), x ∈ fl [[b4], B7_l9, [b_p0], M] := pick_sub [some 2, some 0, some 1, some 3] _ rfl
    have hsb : ∀ x ∈ fl ([[b_p0]] ++ [(fl [[b4], B7_l9, M])]), x ∈ fl [[b4], B7_l9, [b_p0], M] := fun x hx => hsb0 x (fl_unfold x hx)
    have hcall := gen_Maker_From_w b_p0 a_p0_0 c_p0_0 p0_0 x59.2 (-1) ((p1_0).length : Int) _ w60 (fl [[b4], B7_l9, M]) (hpk.fold (P := [[b_p0]])) (hs_p0_0.sub hsb) hb_p0 hx
    refine x_call 19 #[] #[] [.pointer (some ⟨b_p0, 0, none⟩), .int .i64 (-1), .int .i64 ((p1_0).length : Int)] _ rfl rfl rfl rfl hcall ?_
    rintro v w62 ⟨rfl, he62, hp62_0⟩
    clear hcall hx
    refine ⟨.inl rfl, ?_⟩
    have hpk2 : MS w60 ([[b_p0]] ++ [[b4], B7_l9, M]) := hms.pick [some 2, some 0, some 1, some 3] _ rfl
    have hsb2 : ∀ x ∈ fl ([[b_p0]] ++ [[b4], B7_l9, M]), x ∈ fl [[b4], B7_l9, [b_p0], M] := pick_sub [some 2, some 0, some 1, some 3] _ rfl
    have hst0 := Stp.call (LS := [[b4], B7_l9, [b_p0], M]) (res := []) (par := [[b_p0]]) (R := [[b4], B7_l9, M]) he62 (fun b hb => hsb2 b (fl_left' (P := [[b_p0]]) b hb)) (FR.nil _) (NP.init _ _) (fun x hx => hsb2 x (fl_right' (P := [[b_p0]]) x hx))
    have hsn : ∀ x ∈ fl [[b4], B7_l9, [b_p0], M], x ∈ fl ([] ++ ([[b_p0]] ++ [[b4], B7_l9, M])) := pick_sub [some 1, some 2, some 0, some 3] _ rfl
    have hst := hst0.res hsn
    replace hs_p0_0 := hs_p0_0.step hst
    replace hb4 := he62.box hb4 ((MS.outs (P := [[b_p0]]) hpk2 0 rfl) _ (List.mem_singleton.2 rfl))
    replace hs_p1_0 := hs_p1_0.step hst
    replace ho6 := ho6.step (plain_int _) he62 (MS.outs (P := [[b_p0]]) hpk2 1 rfl)
    replace hms := hms.ev he62
    replace hev := hev.then he62 (fun b hb => .inl (by simpa using hb))
    replace hb_p0 := hp62_0
    clear hpk hsb hsb0 hpk2 hsb2 hst0 hsn hst
    refine x_buildSlice (vs := [(0, .int .i64 x61.1)]) #[.int .i64 x61.1] 3 rfl rfl rfl (by kernel_rfl) (fun b63 w63 hq63 hb63 he63 hz63 => ?_)
    refine ⟨.inl rfl, ?_⟩
    obtain ⟨a63, ea63⟩ : ∃ a, a = some (⟨b63, 0, none⟩ : Addr) := ⟨_, rfl⟩
    have hw63 : ∀ M, OwnS (eInt .i64) 3 w63 M a63 1 ([x61.1] : List Int) := fun M => ea63 ▸ own_of_box hb63 (by decide) rfl rfl (cells_at (cs := [.int .i64 x61.1]) (CellsOf.cons (c := [.int .i64 x61.1]) rfl CellsOf.nil))
    have hn63 : ∀ b ∈ blk a63, w62.heap.size ≤ b ∧ b < w63.heap.size := by subst ea63; intro b hb; simp only [blk, List.mem_singleton] at hb; subst hb; exact ⟨Nat.le_of_eq hq63.symm, lt_of_heap hb63⟩
    clear hb63
    have hst := Stp.push (ls := [[b4], B7_l9, [b_p0], M]) (l := blk a63) he63 (fun _ h => by cases h) (fun b hb => (hn63 b hb).1)
    replace hb_p0 := he63.box hb_p0 nn
    replace hs_p0_0 := hs_p0_0.step hst
    replace hb4 := he63.box hb4 nn
    replace hs_p1_0 := hs_p1_0.step hst
    replace ho6 := ho6.step (plain_int _) he63 nn2
    replace hms := hms.push he63 hn63
    replace hfr := hfr.push (fun b hb => Nat.le_trans hev.size (hn63 b hb).1)
    replace hev := hev.ext he63
    have ho63 := hw63 (fl [blk a63, [b4], B7_l9, [b_p0], M])
    clear hw63
    rw [← ea63]
    refine x_buildSlice (vs := [(0, .slice a63 (([x61.1] : List Int)).length 1)]) #[.slice a63 (([x61.1] : List Int)).length 1] 27 rfl rfl rfl (by kernel_rfl) (fun b65 w65 hq65 hb65 he65 hz65 => ?_)
    refine ⟨.inl rfl, ?_⟩
    have hms0 := hms
    have hst := Stp.ext (ls := [blk a63, [b4], B7_l9, [b_p0], M]) he65
    replace hb_p0 := he65.box hb_p0 nn
    replace hs_p0_0 := hs_p0_0.step hst
    replace hb4 := he65.box hb4 nn
    replace hs_p1_0 := hs_p1_0.step hst
    replace ho6 := ho6.step (plain_int _) he65 nn2
    replace ho63 := ho63.step hst he65 nn2
    replace hms := hms.ev he65
    replace hev := hev.ext he65
    have hs65 : SlR eHdr w65 (fl [blk a63, [b4], B7_l9, [b_p0], M]) (some ⟨b65, 0, none⟩) 1 ([(a63, (([x61.1] : List Int)).length, 1)] : List (Option Addr × Nat × Nat)) := ro_of_box hms0 hq65 hb65 rfl rfl (cells_at (cs := [.slice a63 (([x61.1] : List Int)).length 1]) (CellsOf.cons (c := [.slice a63 (([x61.1] : List Int)).length 1]) rfl CellsOf.nil))
    clear hb65 hms0
    have hg := guard_l h
    replace h := guard_r h
    obtain ⟨a67, c67, w67, B67, hr67, he67, hez67, hn67, hR67⟩ := OwnR.app (P := Try.prog) (plain_int _) tel37 37 ho6 hs65 (mem_flat 2 rfl) ho63 (hms.apart 0 2 rfl rfl rfl) (hms.ltat 2 rfl) hg
    refine x_builtin (vs := [.slice a6 (d7_j32).length c6, .slice (some ⟨b65, 0, none⟩) (([(a63, (([x61.1] : List Int)).length, 1)] : List (Option Addr × Nat × Nat))).length 1]) _ w67 rfl rfl rfl rfl (run_value _ _ _ _ hr67) ?_
    refine ⟨.inl rfl, ?_⟩
    have hms2 := hms.merge (C := blk a63 ++ B7_l9) 0 2 rfl rfl (fun x hx => List.mem_append.1 hx)
    replace hfr : FR w.heap.size [[b4], blk a63 ++ B7_l9] := (FR.cons (hfr.at 1 rfl) (FR.cons (fun b hb => (List.mem_append.1 hb).elim (hfr.at 0 rfl b) (hfr.at 2 rfl b)) (FR.nil _)))
    have hsu : ∀ x ∈ fl [[b4], blk a63 ++ B7_l9, [b_p0], M], x ∈ fl [blk a63, [b4], B7_l9, [b_p0], M] := merge_sub (ls := [blk a63, [b4], B7_l9, [b_p0], M]) (C := blk a63 ++ B7_l9) 0 2 rfl rfl (fun x hx => List.mem_append.1 hx)
    replace hms : MS w65 [[b4], blk a63 ++ B7_l9, [b_p0], M] := hms2
    replace hs_p0_0 := hs_p0_0.sub hsu
    replace hs_p1_0 := hs_p1_0.sub hsu
    replace hs65 := hs65.sub hsu
    clear hms2 hsu
    have hst : Stp (fl [[b4], blk a63 ++ B7_l9, [b_p0], M]) w65 (fl [[b4], B67, [b_p0], M]) w67 := Stp.upd 1 he67 rfl (fun b hb => (hn67 b hb).1)
    replace hb_p0 := he67.box hb_p0 (hms.apart 2 1 rfl rfl rfl _ (List.mem_singleton.2 rfl))
    replace hs_p0_0 := hs_p0_0.step hst
    replace hb4 := he67.box hb4 (hms.apart 0 1 rfl rfl rfl _ (List.mem_singleton.2 rfl))
    replace hs_p1_0 := hs_p1_0.step hst
    replace hs65 := hs65.step hst
    replace hms : MS w67 [[b4], B67, [b_p0], M] := hms.upd 1 he67 rfl hn67
    have hfr2 : FR w.heap.size [[b4], B67] := hfr.upd 1 rfl hev.size (fun b hb => (hn67 b hb).1)
    replace hev := hev.then he67 (fun b hb => .inr (hfr.at 1 rfl b hb))
    replace hfr := hfr2
    clear hfr2
    replace ho6 := hR67
    refine x_pure 1 [(5, .slice a67 ((d7_j32 ++ [([x61.1] : List Int)])).length c67)] _ _ _ (by kernel_rfl) ?_
    refine x_end rfl (k_then ?_)
    refine c_seq (c_plain ?_)
    refine x_pure 2 [(122, .slice a67 ((d7_j32 ++ [([x61.1] : List Int)])).length c67), (4, .slice a67 ((d7_j32 ++ [([x61.1] : List Int)])).length c67)] _ _ _ (by kernel_rfl) ?_
    refine x_end rfl (k_then ?_)
    refine c_ret ?_
    refine r_ret (r_vals [.slice a67 ((d7_j32 ++ [([x61.1] : List Int)])).length c67] ⟨rfl, trivial⟩ ?_)
    have hx := some_inj h
    subst hx
    have hmr : MS w67 [B67, [b_p0], M] := hms.pick [some 1, some 2, some 3] _ rfl
    have hsu : ∀ x ∈ fl [B67, [b_p0], M], x ∈ fl [[b4], B67, [b_p0], M] := pick_sub [some 1, some 2, some 3] _ rfl
    have hfe : FR w.heap.size [B67] := hfr.pick [some 1] _ rfl
    exact ⟨a67, c67, B67, rfl, hev, hb_p0, hmr, hfe, ho6⟩
  replace h := ite_f hb h
  refine c_skip ?_
  refine k_then ?_
  refine c_seq (c_plain ?_)
  refine x_pure 2 [(122, .slice a6 (d7_j32).length c6), (4, .slice a6 (d7_j32).length c6)] _ _ _ (by kernel_rfl) ?_
  refine x_end rfl (k_then ?_)
  refine c_ret ?_
  refine r_ret (r_vals [.slice a6 (d7_j32).length c6] ⟨rfl, trivial⟩ ?_)
  have hx := some_inj h
  subst hx
  have hmr : MS w60 [B7_l9, [b_p0], M] := hms.pick [some 1, some 2, some 3] _ rfl
  have hsu : ∀ x ∈ fl [B7_l9, [b_p0], M], x ∈ fl [[b4], B7_l9, [b_p0], M] := pick_sub [some 1, some 2, some 3] _ rfl
  have hfe : FR w.heap.size [B7_l9] := hfr.pick [some 1] _ rfl
  exact ⟨a6, c6, B7_l9, rfl, hev, hb_p0, hmr, hfe, ho6⟩
end Go.Proofs.Ytacimonplnlmgaa
