/- Walks, printed by program: each function returns what the partial function of the same name returns. Conditions: those of each theorem. -/
import Derived.Test.YtmjobkpgnhbcbaaGT
import Derived.Test.YtmjobkpgnhbcbaaGgen
import Derived.Test.YtmjobkpgnhbcbaaGr12
set_option linter.unusedVariables false
set_option linter.unusedSimpArgs false
set_option maxRecDepth 4000
namespace Go.Proofs.Ytmjobkpgnhbcbaa
open Go Go.V Go.Proofs
def law14_plan_J34 (d23_l21 : List Int) (t34__s34_l21 : Int) (x30 : Int × Int) (c_s11_j34 : Int) : Option (Step (Int × (List Int) × Int) (Int × (List Int))) :=
(if d23_l21.length + ([c_s11_j34]).length ≤ 4294967296 then
some (.next (x30.2, (d23_l21 ++ [c_s11_j34]), IntKind.i64.wrap (t34__s34_l21 + 1)))
else none)

def law14_plan_L21 (p0_0 : List Int) (p1_0 : List (Int × Int × Int × Int)) (p1_1 : Int) (most_s5_x9 : Int) (x16 : Int × Int) (s : Int × (List Int) × Int) : Option (Step (Int × (List Int) × Int) (Int × (List Int))) :=
match s with
| (e2_l21_1, d23_l21, t34__s34_l21) =>
(if (decide (t34__s34_l21 < ((p1_0).length : Int))) = true then
((idx p1_0 t34__s34_l21).bind fun x25 =>
(if 0 ≤ if (IntKind.i64.wrap (most_s5_x9 + x16.1)) < 12 then (IntKind.i64.wrap (most_s5_x9 + x16.1)) else 12 then
((gen_Maker_Next p0_0 e2_l21_1 (IntKind.i64.wrap (1 * 2 ^ (min (Int.toNat ((if (IntKind.i64.wrap (most_s5_x9 + x16.1)) < 12 then (IntKind.i64.wrap (most_s5_x9 + x16.1)) else 12))) IntKind.i64.bits)))).bind fun x30 =>
((r12_Next x30.1 x25.2.2.1 p1_1).bind fun x32 =>
(if (x32.2 != 0) = true then
(if 0 ≤ x25.2.2.1 then
law14_plan_J34 d23_l21 t34__s34_l21 x30 (IntKind.i64.wrap ((IntKind.i64.wrap (1 * 2 ^ (min (Int.toNat (x25.2.2.1)) IntKind.i64.bits))) - 1))
else none)
else
(if 0 ≤ if (IntKind.i64.wrap (most_s5_x9 + x16.1)) < 12 then (IntKind.i64.wrap (most_s5_x9 + x16.1)) else 12 then
(if (decide (x32.1 ≥ (IntKind.i64.wrap (1 * 2 ^ (min (Int.toNat ((if (IntKind.i64.wrap (most_s5_x9 + x16.1)) < 12 then (IntKind.i64.wrap (most_s5_x9 + x16.1)) else 12))) IntKind.i64.bits))))) = true then
(if 0 ≤ x25.2.2.1 then
law14_plan_J34 d23_l21 t34__s34_l21 x30 (IntKind.i64.wrap ((IntKind.i64.wrap (1 * 2 ^ (min (Int.toNat (x25.2.2.1)) IntKind.i64.bits))) - 1))
else none)
else
law14_plan_J34 d23_l21 t34__s34_l21 x30 x32.1)
else none))))
else none))
else
some (.done (e2_l21_1, d23_l21)))

def law14_plan_L9 (p1_0 : List (Int × Int × Int × Int)) (s : Int × Int) : Option (Step (Int × Int) Int) :=
match s with
| (most_s5_l9, t16__s16_l9) =>
(if (decide (t16__s16_l9 < ((p1_0).length : Int))) = true then
((idx p1_0 t16__s16_l9).bind fun x11 =>
some (.next (if x11.2.2.1 > most_s5_l9 then x11.2.2.1 else most_s5_l9, IntKind.i64.wrap (t16__s16_l9 + 1))))
else
some (.done most_s5_l9))

def law14_plan (p0_0 : List Int) (p0_1 : Int) (p1_0 : List (Int × Int × Int × Int)) (p1_1 : Int) : Option ((Int × (List Int)) × Int) :=
((loop (law14_plan_L9 p1_0) (0, 0)).bind fun d => match d with
| most_s5_x9 => ((gen_Maker_Next p0_0 p0_1 5).bind fun x16 =>
((loop (law14_plan_L21 p0_0 p1_0 p1_1 most_s5_x9 x16) (x16.2, ([] : List Int), 0)).bind fun d => match d with
| (e2_x21_1, d23_x21) => some ((if (IntKind.i64.wrap (most_s5_x9 + x16.1)) < 12 then (IntKind.i64.wrap (most_s5_x9 + x16.1)) else 12, d23_x21), e2_x21_1))))

theorem law14_plan_w (b_p0 : Nat) (a_p0_0 : Option Addr) (c_p0_0 : Nat) (p0_0 : List Int) (p0_1 : Int) (a_p1_0 : Option Addr) (c_p1_0 : Nat) (p1_0 : List (Int × Int × Int × Int)) (p1_1 : Int) (r : (Int × (List Int)) × Int) (w : World) (M : List Nat) (hms : MS w [[b_p0], M]) (hs_p0_0 : SlR (eInt .i64) w (fl [[b_p0], M]) a_p0_0 c_p0_0 p0_0) (hb_p0 : w.heap[b_p0]? = some (.cells #[.slice a_p0_0 (p0_0).length c_p0_0, .int .i64 p0_1] 67 (0, 0))) (hs_p1_0 : SlR (eProd (eInt .i64) (eProd (eInt .i64) (eProd (eInt .i64) (eInt .i64)))) w (fl [[b_p0], M]) a_p1_0 c_p1_0 p1_0) (h : law14_plan p0_0 p0_1 p1_0 p1_1 = some r) : CallVC Try.prog 13 [.pointer (some ⟨b_p0, 0, none⟩), .agg #[.slice a_p1_0 (p1_0).length c_p1_0, .int .i64 p1_1]] w fun v w' => ∃ (a0' : Option Addr), ∃ (c0' : Nat), v = .agg #[.int .i64 r.1.1, .slice a0' (r.1.2).length c0'] ∧ Ev [b_p0] w w' ∧ w'.heap[b_p0]? = some (.cells #[.slice a_p0_0 (p0_0).length c_p0_0, .int .i64 r.2] 67 (0, 0)) ∧ MS w' [blk a0', [b_p0], M] ∧ FR w.heap.size [blk a0'] ∧ OwnS (eInt .i64) 3 w' (fl [blk a0', [b_p0], M]) a0' c0' r.1.2 := by
  refine calls_vc hmx Try.func13 (by kernel_rfl) rfl (rs := [.cell 4 30]) rfl (by kernel_rfl) (args := [.pointer (some ⟨b_p0, 0, none⟩), .agg #[.slice a_p1_0 (p1_0).length c_p1_0, .int .i64 p1_1]]) rfl ?_
  have hev : Ev [b_p0] w w := Ev.refl _ _
  have hfr : FR w.heap.size [] := FR.nil _
  refine c_seq (c_plain ?_)
  refine x_box (xv := .agg #[.slice a_p1_0 (p1_0).length c_p1_0, .int .i64 p1_1]) rfl rfl rfl (fun b4 w4 hq4 hb4 he4 hz4 => ?_)
  replace hb4 : w4.heap[b4]? = some (.cells #[.slice a_p1_0 (p1_0).length c_p1_0, .int .i64 p1_1] 27 (0, 0)) := hb4
  refine ⟨.inl rfl, ?_⟩
  have hst := Stp.box (ls := [[b_p0], M]) he4 hq4
  replace hs_p0_0 := hs_p0_0.step hst
  replace hb_p0 := he4.box hb_p0 nn
  replace hs_p1_0 := hs_p1_0.step hst
  replace hms := hms.box he4 hq4 hb4
  replace hfr := hfr.box hev.size hq4
  replace hev := hev.ext he4
  refine x_alloc (z := .agg #[.int .i64 0, .slice none 0 0]) rfl rfl (by kernel_rfl) (fun b6 w6 hq6 hb6 he6 hz6 => ?_)
  replace hb6 : w6.heap[b6]? = some (.cells #[.int .i64 0, .slice none 0 0] 30 (0, 0)) := hb6
  refine ⟨.inl rfl, ?_⟩
  have hst := Stp.box (ls := [[b4], [b_p0], M]) he6 hq6
  replace hs_p0_0 := hs_p0_0.step hst
  replace hb_p0 := he6.box hb_p0 nn
  replace hs_p1_0 := hs_p1_0.step hst
  replace hb4 := he6.box hb4 nn
  replace hms := hms.box he6 hq6 hb6
  replace hfr := hfr.box hev.size hq6
  replace hev := hev.ext he6
  refine x_end rfl (k_then ?_)
  refine c_seq (c_plain ?_)
  refine x_pure 1 [(5, .int .i64 0)] _ _ _ (by kernel_rfl) ?_
  refine x_end rfl (k_then ?_)
  refine c_seq ?_
  refine c_seq (c_plain ?_)
  refine x_fieldAddr (xv := .pointer (some ⟨b4, 0, none⟩)) (.pointer (some ⟨b4, 0, none⟩)) rfl rfl rfl (reads_field tfld27_0 _ _) ?_
  refine x_load (xv := .pointer (some ⟨b4, 0, none⟩)) (.slice a_p1_0 (p1_0).length c_p1_0) rfl rfl rfl (reads_box tcell25 hb4 nn 0 _ rfl) ?_
  refine x_len (vs := [.slice a_p1_0 (p1_0).length c_p1_0]) (.int .i64 ((p1_0).length : Int)) rfl rfl rfl (reads_len tsl25 _ _ _ _ _) ?_
  refine x_pure 1 [(16, .int .i64 0)] _ _ _ (by kernel_rfl) ?_
  refine x_end rfl (k_then ?_)
  refine c_block ?_
  have hpk : MS w6 [[b4], [b6], [b_p0], M] := hms.pick [some 1, some 0, some 2, some 3] _ rfl
  have hsu : ∀ x ∈ fl [[b4], [b6], [b_p0], M], x ∈ fl [[b6], [b4], [b_p0], M] := pick_sub [some 1, some 0, some 2, some 3] _ rfl
  replace hs_p0_0 := hs_p0_0.sub hsu
  replace hs_p1_0 := hs_p1_0.sub hsu
  replace hms := hpk
  replace hfr : FR w.heap.size [[b4], [b6]] := hfr.pick [some 1, some 0] _ rfl
  clear hpk hsu
  obtain ⟨d9, hd9, h9⟩ := bind_some h
  obtain ⟨m9, hd9⟩ := loop_some hd9
  refine c_loop (loop_rule hmx (σ := Nat × Int × Int) (fun s => match s with | (_, most_s5_l9, t16__s16_l9) => [(0, .pointer (some ⟨b_p0, 0, none⟩)), (3, .pointer (some ⟨b4, 0, none⟩)), (4, .pointer (some ⟨b6, 0, none⟩)), (5, .int .i64 most_s5_l9), (14, .slice a_p1_0 (p1_0).length c_p1_0), (15, .int .i64 ((p1_0).length : Int)), (16, .int .i64 t16__s16_l9)]) (fun s w' => match s with | (m, most_s5_l9, t16__s16_l9) => loopN (law14_plan_L9 p1_0) m (most_s5_l9, t16__s16_l9) = some d9 ∧ Ev [b_p0] w w' ∧ MS w' [[b4], [b6], [b_p0], M] ∧ FR w.heap.size [[b4], [b6]] ∧ SlR (eInt .i64) w' (fl [[b4], [b6], [b_p0], M]) a_p0_0 c_p0_0 p0_0 ∧ w'.heap[b_p0]? = some (.cells #[.slice a_p0_0 (p0_0).length c_p0_0, .int .i64 p0_1] 67 (0, 0)) ∧ SlR (eProd (eInt .i64) (eProd (eInt .i64) (eProd (eInt .i64) (eInt .i64)))) w' (fl [[b4], [b6], [b_p0], M]) a_p1_0 c_p1_0 p1_0 ∧ w'.heap[b4]? = some (.cells #[.slice a_p1_0 (p1_0).length c_p1_0, .int .i64 p1_1] 27 (0, 0)) ∧ w'.heap[b6]? = some (.cells #[.int .i64 0, .slice none 0 0] 30 (0, 0))) (fun s => s.1) (m9, 0, 0) ⟨rfl, rfl, rfl, rfl, rfl, rfl, rfl, trivial⟩ ⟨hd9, hev, hms, hfr, hs_p0_0, hb_p0, hs_p1_0, hb4, hb6⟩ ?_)
  rintro ⟨m9, most_s5_l9, t16__s16_l9⟩ J wl9 ⟨hn9, hev, hms, hfr, hs_p0_0, hb_p0, hs_p1_0, hb4, hb6⟩
  rcases m9 with _ | m9
  · exact (loopN_zero hn9).elim
  obtain ⟨t9, h, hn9⟩ := bind_some hn9
  refine c_seq (c_plain ?_)
  refine x_pure 1 [(17, .bool (decide (t16__s16_l9 < ((p1_0).length : Int))))] _ _ _ (by kernel_rfl) ?_
  refine x_end rfl (k_then ?_)
  refine c_norm [(0, .pointer (some ⟨b_p0, 0, none⟩)), (3, .pointer (some ⟨b4, 0, none⟩)), (4, .pointer (some ⟨b6, 0, none⟩)), (5, .int .i64 most_s5_l9), (14, .slice a_p1_0 (p1_0).length c_p1_0), (15, .int .i64 ((p1_0).length : Int)), (16, .int .i64 t16__s16_l9), (17, .bool (decide (t16__s16_l9 < ((p1_0).length : Int))))] ⟨rfl, rfl, rfl, rfl, rfl, rfl, rfl, rfl, trivial⟩ (fun J => ?_)
  refine c_seq ?_
  refine c_cond (decide (t16__s16_l9 < ((p1_0).length : Int))) rfl (fun hb => ?_) (fun hb => ?_)
  · replace h := ite_t hb h
    refine c_skip ?_
    refine k_then ?_
    refine c_seq ?_
    refine c_block ?_
    refine c_seq (c_plain ?_)
    obtain ⟨x11, hx11, h⟩ := bind_some h
    obtain ⟨ad11, cs11, hr11, hc11, hR⟩ := reads_index (Mo := []) tsl25 hs_p1_0 hx11
    obtain ⟨_, _, rfl, rfl, ⟨_, _, rfl, rfl, ⟨_, _, rfl, rfl, rfl⟩⟩⟩ := hR
    refine x_indexAddr (xv := .slice a_p1_0 (p1_0).length c_p1_0) (yv := .int .i64 t16__s16_l9) (.pointer (some ad11)) rfl rfl rfl rfl hr11 ?_
    refine x_load (xv := .pointer (some ad11)) (.agg #[.int .i64 x11.1, .int .i64 x11.2.1, .int .i64 x11.2.2.1, .int .i64 x11.2.2.2]) rfl rfl rfl (reads_agg tagg39 hc11 (fun _ h => by cases h)) ?_
    refine x_alloc (z := .agg #[.int .i64 0, .int .i64 0, .int .i64 0, .int .i64 0]) rfl rfl (by kernel_rfl) (fun b13 w13 hq13 hb13 he13 hz13 => ?_)
    replace hb13 : w13.heap[b13]? = some (.cells #[.int .i64 0, .int .i64 0, .int .i64 0, .int .i64 0] 39 (0, 0)) := hb13
    refine ⟨.inl rfl, ?_⟩
    have hst := Stp.box (ls := [[b4], [b6], [b_p0], M]) he13 hq13
    replace hb_p0 := he13.box hb_p0 nn
    replace hs_p0_0 := hs_p0_0.step hst
    replace hb4 := he13.box hb4 nn
    replace hs_p1_0 := hs_p1_0.step hst
    replace hb6 := he13.box hb6 nn
    replace hc11 := hc11.step hst
    replace hms := hms.box he13 hq13 hb13
    replace hfr := hfr.box hev.size hq13
    replace hev := hev.ext he13
    obtain ⟨w15, hr15, hb15, he15⟩ := store_boxagg 0 [.int .i64 x11.1, .int .i64 x11.2.1, .int .i64 x11.2.2.1, .int .i64 x11.2.2.2] #[.int .i64 x11.1, .int .i64 x11.2.1, .int .i64 x11.2.2.1, .int .i64 x11.2.2.2] tagg39 hb13 rfl rfl rfl
    refine x_store w15 (xv := .pointer (some ⟨b13, 0, none⟩)) (yv := .agg #[.int .i64 x11.1, .int .i64 x11.2.1, .int .i64 x11.2.2.1, .int .i64 x11.2.2.2]) rfl rfl rfl rfl hr15 ?_
    refine ⟨.inl rfl, ?_⟩
    have hst := Stp.ev' (ls := [[b13], [b4], [b6], [b_p0], M]) he15 (mem_flat 0 rfl)
    replace hb_p0 := he15.box hb_p0 (hms.apart 3 0 rfl rfl rfl _ (List.mem_singleton.2 rfl))
    replace hs_p0_0 := hs_p0_0.step hst
    replace hb4 := he15.box hb4 (hms.apart 1 0 rfl rfl rfl _ (List.mem_singleton.2 rfl))
    replace hs_p1_0 := hs_p1_0.step hst
    replace hb6 := he15.box hb6 (hms.apart 2 0 rfl rfl rfl _ (List.mem_singleton.2 rfl))
    replace hc11 := hc11.step hst
    replace hms := hms.ev he15
    replace hev := hev.then he15 (fun b hb => .inr (hfr.at 0 rfl b hb))
    replace hb13 := hb15
    refine x_end rfl (k_then ?_)
    refine c_plain ?_
    refine x_pure 1 [(20, .int .i64 most_s5_l9)] _ _ _ (by kernel_rfl) ?_
    refine x_fieldAddr (xv := .pointer (some ⟨b13, 0, none⟩)) (.pointer (some ⟨b13, 2, none⟩)) rfl rfl rfl (reads_field tfld39_2 _ _) ?_
    refine x_load (xv := .pointer (some ⟨b13, 2, none⟩)) (.int .i64 x11.2.2.1) rfl rfl rfl (reads_box tcell3 hb13 nn 2 _ rfl) ?_
    refine x_max (vs := [.int .i64 most_s5_l9, .int .i64 x11.2.2.1]) (.int .i64 (if x11.2.2.1 > most_s5_l9 then x11.2.2.1 else most_s5_l9)) rfl rfl rfl (fun _ _ => rfl) ?_
    refine x_pure 1 [(5, .int .i64 (if x11.2.2.1 > most_s5_l9 then x11.2.2.1 else most_s5_l9))] _ _ _ (by kernel_rfl) ?_
    refine x_end rfl ?_
    refine k_block ?_
    refine k_then ?_
    refine c_plain ?_
    refine x_pure 2 [(24, .int .i64 (IntKind.i64.wrap (t16__s16_l9 + 1))), (16, .int .i64 (IntKind.i64.wrap (t16__s16_l9 + 1)))] _ _ _ (by kernel_rfl) ?_
    refine x_end rfl ?_
    have hx := some_inj h
    subst hx
    have hpk : MS w15 [[b4], [b6], [b_p0], M] := hms.pick [some 1, some 2, some 3, some 4] _ rfl
    have hsu : ∀ x ∈ fl [[b4], [b6], [b_p0], M], x ∈ fl [[b13], [b4], [b6], [b_p0], M] := pick_sub [some 1, some 2, some 3, some 4] _ rfl
    replace hs_p0_0 := hs_p0_0.sub hsu
    replace hs_p1_0 := hs_p1_0.sub hsu
    replace hms := hpk
    replace hfr : FR w.heap.size [[b4], [b6]] := hfr.pick [some 1, some 2] _ rfl
    clear hpk hsu
    exact k_then ⟨(m9, if x11.2.2.1 > most_s5_l9 then x11.2.2.1 else most_s5_l9, IntKind.i64.wrap (t16__s16_l9 + 1)), ⟨rfl, rfl, rfl, rfl, rfl, rfl, rfl, trivial⟩, ⟨hn9, hev, hms, hfr, hs_p0_0, hb_p0, hs_p1_0, hb4, hb6⟩, Nat.lt_succ_self _⟩
  replace h := ite_f hb h
  refine c_exit ?_
  refine k_then_exit ?_
  have hx := some_inj h
  subst hx
  have hy := some_inj hn9
  subst hy
  replace h := h9
  refine k_then_exit ?_
  refine k_block_in ?_
  refine k_then ?_
  refine c_norm [(0, .pointer (some ⟨b_p0, 0, none⟩)), (3, .pointer (some ⟨b4, 0, none⟩)), (4, .pointer (some ⟨b6, 0, none⟩)), (5, .int .i64 most_s5_l9)] ⟨rfl, rfl, rfl, rfl, trivial⟩ (fun J => ?_)
  refine c_seq (c_plain ?_)
  refine x_pure 2 [(25, .int .i64 most_s5_l9), (26, .pointer (some ⟨b_p0, 0, none⟩))] _ _ _ (by kernel_rfl) ?_
  obtain ⟨x16, hx, h⟩ := bind_some h
  have hpk : MS wl9 ([[b_p0]] ++ [[b4], [b6], M]) := hms.pick [some 2, some 0, some 1, some 3] _ rfl
  have hsb0 : ∀ x ∈ fl ([[b_p0]] ++ [[b4], [b6], M]), x ∈ fl [[b4], [b6], [b_p0], M] := pick_sub [some 2, some 0, some 1, some 3] _ rfl
  have hsb : ∀ x ∈ fl ([[b_p0]] ++ [(fl [[b4], [b6], M])]), x ∈ fl [[b4], [b6], [b_p0], M] := fun x hx => hsb0 x (fl_unfold x hx)
  have hcall := gen_Maker_Next_w b_p0 a_p0_0 c_p0_0 p0_0 p0_1 5 _ wl9 (fl [[b4], [b6], M]) (hpk.fold (P := [[b_p0]])) (hs_p0_0.sub hsb) hb_p0 hx
  refine x_call 23 #[] #[] [.pointer (some ⟨b_p0, 0, none⟩), .int .i64 5] _ rfl rfl rfl rfl hcall ?_
  rintro v w17 ⟨rfl, he17, hp17_0⟩
  clear hcall hx
  refine ⟨.inl rfl, ?_⟩
  have hpk2 : MS wl9 ([[b_p0]] ++ [[b4], [b6], M]) := hms.pick [some 2, some 0, some 1, some 3] _ rfl
  have hsb2 : ∀ x ∈ fl ([[b_p0]] ++ [[b4], [b6], M]), x ∈ fl [[b4], [b6], [b_p0], M] := pick_sub [some 2, some 0, some 1, some 3] _ rfl
  have hst0 := Stp.call (LS := [[b4], [b6], [b_p0], M]) (res := []) (par := [[b_p0]]) (R := [[b4], [b6], M]) he17 (fun b hb => hsb2 b (fl_left' (P := [[b_p0]]) b hb)) (FR.nil _) (NP.init _ _) (fun x hx => hsb2 x (fl_right' (P := [[b_p0]]) x hx))
  have hsn : ∀ x ∈ fl [[b4], [b6], [b_p0], M], x ∈ fl ([] ++ ([[b_p0]] ++ [[b4], [b6], M])) := pick_sub [some 1, some 2, some 0, some 3] _ rfl
  have hst := hst0.res hsn
  replace hs_p0_0 := hs_p0_0.step hst
  replace hb4 := he17.box hb4 ((MS.outs (P := [[b_p0]]) hpk2 0 rfl) _ (List.mem_singleton.2 rfl))
  replace hs_p1_0 := hs_p1_0.step hst
  replace hb6 := he17.box hb6 ((MS.outs (P := [[b_p0]]) hpk2 1 rfl) _ (List.mem_singleton.2 rfl))
  replace hms := hms.ev he17
  replace hev := hev.then he17 (fun b hb => .inl (by simpa using hb))
  replace hb_p0 := hp17_0
  clear hpk hsb hsb0 hpk2 hsb2 hst0 hsn hst
  refine x_pure 1 [(28, .int .i64 (IntKind.i64.wrap (most_s5_l9 + x16.1)))] _ _ _ (by kernel_rfl) ?_
  refine x_min (vs := [.int .i64 12, .int .i64 (IntKind.i64.wrap (most_s5_l9 + x16.1))]) (.int .i64 (if (IntKind.i64.wrap (most_s5_l9 + x16.1)) < 12 then (IntKind.i64.wrap (most_s5_l9 + x16.1)) else 12)) rfl rfl rfl (fun _ _ => rfl) ?_
  refine x_build (vs := [(0, .int .i64 (if (IntKind.i64.wrap (most_s5_l9 + x16.1)) < 12 then (IntKind.i64.wrap (most_s5_l9 + x16.1)) else 12))]) (.agg #[.int .i64 (if (IntKind.i64.wrap (most_s5_l9 + x16.1)) < 12 then (IntKind.i64.wrap (most_s5_l9 + x16.1)) else 12), .slice none 0 0]) rfl rfl rfl (fun _ _ => by kernel_rfl) ?_
  refine x_alloc (z := .agg #[.int .i64 0, .slice none 0 0]) rfl rfl (by kernel_rfl) (fun b18 w18 hq18 hb18 he18 hz18 => ?_)
  replace hb18 : w18.heap[b18]? = some (.cells #[.int .i64 0, .slice none 0 0] 30 (0, 0)) := hb18
  refine ⟨.inl rfl, ?_⟩
  have hst := Stp.box (ls := [[b4], [b6], [b_p0], M]) he18 hq18
  replace hb_p0 := he18.box hb_p0 nn
  replace hs_p0_0 := hs_p0_0.step hst
  replace hb4 := he18.box hb4 nn
  replace hs_p1_0 := hs_p1_0.step hst
  replace hb6 := he18.box hb6 nn
  replace hms := hms.box he18 hq18 hb18
  replace hfr := hfr.box hev.size hq18
  replace hev := hev.ext he18
  obtain ⟨w20, hr20, hb20, he20⟩ := store_boxagg 0 [.int .i64 (if (IntKind.i64.wrap (most_s5_l9 + x16.1)) < 12 then (IntKind.i64.wrap (most_s5_l9 + x16.1)) else 12), .slice none 0 0] #[.int .i64 (if (IntKind.i64.wrap (most_s5_l9 + x16.1)) < 12 then (IntKind.i64.wrap (most_s5_l9 + x16.1)) else 12), .slice none 0 0] tagg30 hb18 rfl rfl rfl
  refine x_store w20 (xv := .pointer (some ⟨b18, 0, none⟩)) (yv := .agg #[.int .i64 (if (IntKind.i64.wrap (most_s5_l9 + x16.1)) < 12 then (IntKind.i64.wrap (most_s5_l9 + x16.1)) else 12), .slice none 0 0]) rfl rfl rfl rfl hr20 ?_
  refine ⟨.inl rfl, ?_⟩
  have hst := Stp.ev' (ls := [[b18], [b4], [b6], [b_p0], M]) he20 (mem_flat 0 rfl)
  replace hb_p0 := he20.box hb_p0 (hms.apart 3 0 rfl rfl rfl _ (List.mem_singleton.2 rfl))
  replace hs_p0_0 := hs_p0_0.step hst
  replace hb4 := he20.box hb4 (hms.apart 1 0 rfl rfl rfl _ (List.mem_singleton.2 rfl))
  replace hs_p1_0 := hs_p1_0.step hst
  replace hb6 := he20.box hb6 (hms.apart 2 0 rfl rfl rfl _ (List.mem_singleton.2 rfl))
  replace hms := hms.ev he20
  replace hev := hev.then he20 (fun b hb => .inr (hfr.at 0 rfl b hb))
  replace hb18 := hb20
  refine x_end rfl (k_then ?_)
  refine c_seq ?_
  refine c_seq (c_plain ?_)
  refine x_fieldAddr (xv := .pointer (some ⟨b4, 0, none⟩)) (.pointer (some ⟨b4, 0, none⟩)) rfl rfl rfl (reads_field tfld27_0 _ _) ?_
  refine x_load (xv := .pointer (some ⟨b4, 0, none⟩)) (.slice a_p1_0 (p1_0).length c_p1_0) rfl rfl rfl (reads_box tcell25 hb4 nn 0 _ rfl) ?_
  refine x_len (vs := [.slice a_p1_0 (p1_0).length c_p1_0]) (.int .i64 ((p1_0).length : Int)) rfl rfl rfl (reads_len tsl25 _ _ _ _ _) ?_
  refine x_pure 1 [(34, .int .i64 0)] _ _ _ (by kernel_rfl) ?_
  refine x_end rfl (k_then ?_)
  refine c_block ?_
  have hst := Stp.push (ls := [[b18], [b4], [b6], [b_p0], M]) (l := blk none) (Ev.refl [] w20) (fun _ h => by cases h) (fun _ h => by cases h)
  replace hb_p0 := (Ev.refl [] _).box hb_p0 nn
  replace hs_p0_0 := hs_p0_0.step hst
  replace hb4 := (Ev.refl [] _).box hb4 nn
  replace hs_p1_0 := hs_p1_0.step hst
  replace hb6 := (Ev.refl [] _).box hb6 nn
  replace hb18 := (Ev.refl [] _).box hb18 nn
  replace hms := hms.push (l := blk none) (Ev.refl [] _) (fun _ h => by cases h)
  replace hfr := hfr.push (l := blk none) (fun _ h => by cases h)
  have ho22 := OwnS.nil (eInt .i64) 3 w20 (fl [blk none, [b18], [b4], [b6], [b_p0], M])
  have hpk : MS w20 [[b4], [b6], blk none, [b18], [b_p0], M] := hms.pick [some 2, some 3, some 0, some 1, some 4, some 5] _ rfl
  have hsu : ∀ x ∈ fl [[b4], [b6], blk none, [b18], [b_p0], M], x ∈ fl [blk none, [b18], [b4], [b6], [b_p0], M] := pick_sub [some 2, some 3, some 0, some 1, some 4, some 5] _ rfl
  replace hs_p0_0 := hs_p0_0.sub hsu
  replace hs_p1_0 := hs_p1_0.sub hsu
  replace ho22 := ho22.sub hsu
  replace hms := hpk
  replace hfr : FR w.heap.size [[b4], [b6], blk none, [b18]] := hfr.pick [some 2, some 3, some 0, some 1] _ rfl
  clear hpk hsu
  obtain ⟨d21, hd21, h21⟩ := bind_some h
  obtain ⟨m21, hd21⟩ := loop_some hd21
  refine c_loop (loop_rule hmx (σ := Nat × Int × (List Int) × Int × Option Addr × Nat) (fun s => match s with | (_, e2_l21_1, d23_l21, t34__s34_l21, a23_l21, c23_l21) => [(0, .pointer (some ⟨b_p0, 0, none⟩)), (3, .pointer (some ⟨b4, 0, none⟩)), (4, .pointer (some ⟨b6, 0, none⟩)), (8, .pointer (some ⟨b18, 0, none⟩)), (32, .slice a_p1_0 (p1_0).length c_p1_0), (33, .int .i64 ((p1_0).length : Int)), (34, .int .i64 t34__s34_l21)]) (fun s w' => match s with | (m, e2_l21_1, d23_l21, t34__s34_l21, a23_l21, c23_l21) => loopN (law14_plan_L21 p0_0 p1_0 p1_1 most_s5_l9 x16) m (e2_l21_1, d23_l21, t34__s34_l21) = some d21 ∧ Ev [b_p0] w w' ∧ MS w' [[b4], [b6], blk a23_l21, [b18], [b_p0], M] ∧ FR w.heap.size [[b4], [b6], blk a23_l21, [b18]] ∧ SlR (eInt .i64) w' (fl [[b4], [b6], blk a23_l21, [b18], [b_p0], M]) a_p0_0 c_p0_0 p0_0 ∧ w'.heap[b_p0]? = some (.cells #[.slice a_p0_0 (p0_0).length c_p0_0, .int .i64 e2_l21_1] 67 (0, 0)) ∧ SlR (eProd (eInt .i64) (eProd (eInt .i64) (eProd (eInt .i64) (eInt .i64)))) w' (fl [[b4], [b6], blk a23_l21, [b18], [b_p0], M]) a_p1_0 c_p1_0 p1_0 ∧ w'.heap[b4]? = some (.cells #[.slice a_p1_0 (p1_0).length c_p1_0, .int .i64 p1_1] 27 (0, 0)) ∧ w'.heap[b6]? = some (.cells #[.int .i64 0, .slice none 0 0] 30 (0, 0)) ∧ OwnS (eInt .i64) 3 w' (fl [[b4], [b6], blk a23_l21, [b18], [b_p0], M]) a23_l21 c23_l21 d23_l21 ∧ w'.heap[b18]? = some (.cells #[.int .i64 (if (IntKind.i64.wrap (most_s5_l9 + x16.1)) < 12 then (IntKind.i64.wrap (most_s5_l9 + x16.1)) else 12), .slice a23_l21 (d23_l21).length c23_l21] 30 (0, 0))) (fun s => s.1) (m21, x16.2, ([] : List Int), 0, none, 0) ⟨rfl, rfl, rfl, rfl, rfl, rfl, rfl, trivial⟩ ⟨hd21, hev, hms, hfr, hs_p0_0, hb_p0, hs_p1_0, hb4, hb6, ho22, hb18⟩ ?_)
  rintro ⟨m21, e2_l21_1, d23_l21, t34__s34_l21, a23_l21, c23_l21⟩ J wl21 ⟨hn21, hev, hms, hfr, hs_p0_0, hb_p0, hs_p1_0, hb4, hb6, hj23_l21, hb18⟩
  rcases m21 with _ | m21
  · exact (loopN_zero hn21).elim
  obtain ⟨t21, h, hn21⟩ := bind_some hn21
  refine c_seq (c_plain ?_)
  refine x_pure 1 [(35, .bool (decide (t34__s34_l21 < ((p1_0).length : Int))))] _ _ _ (by kernel_rfl) ?_
  refine x_end rfl (k_then ?_)
  refine c_norm [(0, .pointer (some ⟨b_p0, 0, none⟩)), (3, .pointer (some ⟨b4, 0, none⟩)), (4, .pointer (some ⟨b6, 0, none⟩)), (8, .pointer (some ⟨b18, 0, none⟩)), (32, .slice a_p1_0 (p1_0).length c_p1_0), (33, .int .i64 ((p1_0).length : Int)), (34, .int .i64 t34__s34_l21), (35, .bool (decide (t34__s34_l21 < ((p1_0).length : Int))))] ⟨rfl, rfl, rfl, rfl, rfl, rfl, rfl, rfl, trivial⟩ (fun J => ?_)
  refine c_seq ?_
  refine c_cond (decide (t34__s34_l21 < ((p1_0).length : Int))) rfl (fun hb => ?_) (fun hb => ?_)
  · replace h := ite_t hb h
    refine c_skip ?_
    refine k_then ?_
    refine c_seq ?_
    refine c_block ?_
    refine c_seq (c_plain ?_)
    obtain ⟨x25, hx25, h⟩ := bind_some h
    obtain ⟨ad25, cs25, hr25, hc25, hR⟩ := reads_index (Mo := []) tsl25 hs_p1_0 hx25
    obtain ⟨_, _, rfl, rfl, ⟨_, _, rfl, rfl, ⟨_, _, rfl, rfl, rfl⟩⟩⟩ := hR
    refine x_indexAddr (xv := .slice a_p1_0 (p1_0).length c_p1_0) (yv := .int .i64 t34__s34_l21) (.pointer (some ad25)) rfl rfl rfl rfl hr25 ?_
    refine x_load (xv := .pointer (some ad25)) (.agg #[.int .i64 x25.1, .int .i64 x25.2.1, .int .i64 x25.2.2.1, .int .i64 x25.2.2.2]) rfl rfl rfl (reads_agg tagg39 hc25 (fun _ h => by cases h)) ?_
    refine x_alloc (z := .agg #[.int .i64 0, .int .i64 0, .int .i64 0, .int .i64 0]) rfl rfl (by kernel_rfl) (fun b27 w27 hq27 hb27 he27 hz27 => ?_)
    replace hb27 : w27.heap[b27]? = some (.cells #[.int .i64 0, .int .i64 0, .int .i64 0, .int .i64 0] 39 (0, 0)) := hb27
    refine ⟨.inl rfl, ?_⟩
    have hst := Stp.box (ls := [[b4], [b6], blk a23_l21, [b18], [b_p0], M]) he27 hq27
    replace hb_p0 := he27.box hb_p0 nn
    replace hs_p0_0 := hs_p0_0.step hst
    replace hb4 := he27.box hb4 nn
    replace hs_p1_0 := hs_p1_0.step hst
    replace hb6 := he27.box hb6 nn
    replace hb18 := he27.box hb18 nn
    replace hj23_l21 := hj23_l21.step hst he27 nn2
    replace hc25 := hc25.step hst
    replace hms := hms.box he27 hq27 hb27
    replace hfr := hfr.box hev.size hq27
    replace hev := hev.ext he27
    obtain ⟨w29, hr29, hb29, he29⟩ := store_boxagg 0 [.int .i64 x25.1, .int .i64 x25.2.1, .int .i64 x25.2.2.1, .int .i64 x25.2.2.2] #[.int .i64 x25.1, .int .i64 x25.2.1, .int .i64 x25.2.2.1, .int .i64 x25.2.2.2] tagg39 hb27 rfl rfl rfl
    refine x_store w29 (xv := .pointer (some ⟨b27, 0, none⟩)) (yv := .agg #[.int .i64 x25.1, .int .i64 x25.2.1, .int .i64 x25.2.2.1, .int .i64 x25.2.2.2]) rfl rfl rfl rfl hr29 ?_
    refine ⟨.inl rfl, ?_⟩
    have hst := Stp.ev' (ls := [[b27], [b4], [b6], blk a23_l21, [b18], [b_p0], M]) he29 (mem_flat 0 rfl)
    replace hb_p0 := he29.box hb_p0 (hms.apart 5 0 rfl rfl rfl _ (List.mem_singleton.2 rfl))
    replace hs_p0_0 := hs_p0_0.step hst
    replace hb4 := he29.box hb4 (hms.apart 1 0 rfl rfl rfl _ (List.mem_singleton.2 rfl))
    replace hs_p1_0 := hs_p1_0.step hst
    replace hb6 := he29.box hb6 (hms.apart 2 0 rfl rfl rfl _ (List.mem_singleton.2 rfl))
    replace hb18 := he29.box hb18 (hms.apart 4 0 rfl rfl rfl _ (List.mem_singleton.2 rfl))
    replace hj23_l21 := hj23_l21.step hst he29 (hms.apart 3 0 rfl rfl rfl)
    replace hc25 := hc25.step hst
    replace hms := hms.ev he29
    replace hev := hev.then he29 (fun b hb => .inr (hfr.at 0 rfl b hb))
    replace hb27 := hb29
    refine x_end rfl (k_then ?_)
    refine c_seq ?_
    refine c_drawn [b_p0] [(0, false), (1, false), (2, false), (3, false), (5, false), (6, false), (7, false), (8, false), (4, false), (9, false), (10, false), (11, false), (12, false), (13, true), (14, true)] _ (by kernel_rfl) rfl ?_
    have hst := Stp.ext (ls := [[b27], [b4], [b6], blk a23_l21, [b18], [b_p0], M]) (Ev.drew w29)
    replace hb_p0 := (Ev.drew w29).box hb_p0 nn
    replace hs_p0_0 := hs_p0_0.step hst
    replace hb4 := (Ev.drew w29).box hb4 nn
    replace hs_p1_0 := hs_p1_0.step hst
    replace hb6 := (Ev.drew w29).box hb6 nn
    replace hb18 := (Ev.drew w29).box hb18 nn
    replace hj23_l21 := hj23_l21.step hst (Ev.drew w29) nn2
    replace hb27 := (Ev.drew w29).box hb27 nn
    replace hms := hms.ev (Ev.drew w29)
    replace hev := hev.ext (Ev.drew w29)
    refine x_pure 1 [(39, .pointer (some ⟨b_p0, 0, none⟩))] _ _ _ (by kernel_rfl) ?_
    refine x_fieldAddr (xv := .pointer (some ⟨b18, 0, none⟩)) (.pointer (some ⟨b18, 0, none⟩)) rfl rfl rfl (reads_field tfld30_0 _ _) ?_
    refine x_load (xv := .pointer (some ⟨b18, 0, none⟩)) (.int .i64 (if (IntKind.i64.wrap (most_s5_l9 + x16.1)) < 12 then (IntKind.i64.wrap (most_s5_l9 + x16.1)) else 12)) rfl rfl rfl (reads_box tcell3 hb18 ((hms.apart 4 5 rfl rfl rfl) _ (List.mem_singleton.2 rfl)) 0 _ rfl) ?_
    refine x_binop (.int .i64 (IntKind.i64.wrap (1 * 2 ^ (min (Int.toNat ((if (IntKind.i64.wrap (most_s5_l9 + x16.1)) < 12 then (IntKind.i64.wrap (most_s5_l9 + x16.1)) else 12))) IntKind.i64.bits)))) (.int .i64 1) (.int .i64 (if (IntKind.i64.wrap (most_s5_l9 + x16.1)) < 12 then (IntKind.i64.wrap (most_s5_l9 + x16.1)) else 12)) rfl rfl rfl rfl (vb_shl (guard_l h)) ?_
    replace h := guard_r h
    refine x_fieldAddr (xv := .pointer (some ⟨b27, 0, none⟩)) (.pointer (some ⟨b27, 2, none⟩)) rfl rfl rfl (reads_field tfld39_2 _ _) ?_
    refine x_load (xv := .pointer (some ⟨b27, 2, none⟩)) (.int .i64 x25.2.2.1) rfl rfl rfl (reads_box tcell3 hb27 ((hms.apart 0 5 rfl rfl rfl) _ (List.mem_singleton.2 rfl)) 2 _ rfl) ?_
    refine x_fieldAddr (xv := .pointer (some ⟨b4, 0, none⟩)) (.pointer (some ⟨b4, 1, none⟩)) rfl rfl rfl (reads_field tfld27_1 _ _) ?_
    refine x_load (xv := .pointer (some ⟨b4, 1, none⟩)) (.int .i64 p1_1) rfl rfl rfl (reads_box tcell3 hb4 ((hms.apart 1 5 rfl rfl rfl) _ (List.mem_singleton.2 rfl)) 1 _ rfl) ?_
    obtain ⟨x30, hx, h⟩ := bind_some h
    have hpk : MS (w29).drew ([[b_p0]] ++ [[b27], [b4], [b6], blk a23_l21, [b18], M]) := hms.pick [some 5, some 0, some 1, some 2, some 3, some 4, some 6] _ rfl
    have hsb0 : ∀ x ∈ fl ([[b_p0]] ++ [[b27], [b4], [b6], blk a23_l21, [b18], M]), x ∈ fl [[b27], [b4], [b6], blk a23_l21, [b18], [b_p0], M] := pick_sub [some 5, some 0, some 1, some 2, some 3, some 4, some 6] _ rfl
    have hsb : ∀ x ∈ fl ([[b_p0]] ++ [(fl [[b27], [b4], [b6], blk a23_l21, [b18], M])]), x ∈ fl [[b27], [b4], [b6], blk a23_l21, [b18], [b_p0], M] := fun x hx => hsb0 x (fl_unfold x hx)
    have hcall := gen_Maker_Next_w b_p0 a_p0_0 c_p0_0 p0_0 e2_l21_1 (IntKind.i64.wrap (1 * 2 ^ (min (Int.toNat ((if (IntKind.i64.wrap (most_s5_l9 + x16.1)) < 12 then (IntKind.i64.wrap (most_s5_l9 + x16.1)) else 12))) IntKind.i64.bits))) _ (w29).drew (fl [[b27], [b4], [b6], blk a23_l21, [b18], M]) (hpk.fold (P := [[b_p0]])) (hs_p0_0.sub hsb) hb_p0 hx
    refine x_call 23 #[] #[] [.pointer (some ⟨b_p0, 0, none⟩), .int .i64 (IntKind.i64.wrap (1 * 2 ^ (min (Int.toNat ((if (IntKind.i64.wrap (most_s5_l9 + x16.1)) < 12 then (IntKind.i64.wrap (most_s5_l9 + x16.1)) else 12))) IntKind.i64.bits)))] _ rfl rfl rfl rfl hcall ?_
    rintro v w31 ⟨rfl, he31, hp31_0⟩
    clear hcall hx
    refine ⟨.inr he31, ?_⟩
    have hpk2 : MS (w29).drew ([[b_p0]] ++ [[b27], [b4], [b6], blk a23_l21, [b18], M]) := hms.pick [some 5, some 0, some 1, some 2, some 3, some 4, some 6] _ rfl
    have hsb2 : ∀ x ∈ fl ([[b_p0]] ++ [[b27], [b4], [b6], blk a23_l21, [b18], M]), x ∈ fl [[b27], [b4], [b6], blk a23_l21, [b18], [b_p0], M] := pick_sub [some 5, some 0, some 1, some 2, some 3, some 4, some 6] _ rfl
    have hst0 := Stp.call (LS := [[b27], [b4], [b6], blk a23_l21, [b18], [b_p0], M]) (res := []) (par := [[b_p0]]) (R := [[b27], [b4], [b6], blk a23_l21, [b18], M]) he31 (fun b hb => hsb2 b (fl_left' (P := [[b_p0]]) b hb)) (FR.nil _) (NP.init _ _) (fun x hx => hsb2 x (fl_right' (P := [[b_p0]]) x hx))
    have hsn : ∀ x ∈ fl [[b27], [b4], [b6], blk a23_l21, [b18], [b_p0], M], x ∈ fl ([] ++ ([[b_p0]] ++ [[b27], [b4], [b6], blk a23_l21, [b18], M])) := pick_sub [some 1, some 2, some 3, some 4, some 5, some 0, some 6] _ rfl
    have hst := hst0.res hsn
    replace hs_p0_0 := hs_p0_0.step hst
    replace hb4 := he31.box hb4 ((MS.outs (P := [[b_p0]]) hpk2 1 rfl) _ (List.mem_singleton.2 rfl))
    replace hs_p1_0 := hs_p1_0.step hst
    replace hb6 := he31.box hb6 ((MS.outs (P := [[b_p0]]) hpk2 2 rfl) _ (List.mem_singleton.2 rfl))
    replace hb18 := he31.box hb18 ((MS.outs (P := [[b_p0]]) hpk2 4 rfl) _ (List.mem_singleton.2 rfl))
    replace hj23_l21 := hj23_l21.step hst he31 (MS.outs (P := [[b_p0]]) hpk2 3 rfl)
    replace hb27 := he31.box hb27 ((MS.outs (P := [[b_p0]]) hpk2 0 rfl) _ (List.mem_singleton.2 rfl))
    replace hms := hms.ev he31
    replace hev := hev.then he31 (fun b hb => .inl (by simpa using hb))
    replace hb_p0 := hp31_0
    clear hpk hsb hsb0 hpk2 hsb2 hst0 hsn hst
    obtain ⟨x32, hx, h⟩ := bind_some h
    have hcall := r12_Next_w x30.1 x25.2.2.1 p1_1 _ w31 hx
    refine x_call 28 #[] #[] [.int .i64 x30.1, .int .i64 x25.2.2.1, .int .i64 p1_1] _ rfl rfl rfl rfl hcall ?_
    rintro v w33 ⟨rfl, he33⟩
    clear hcall hx
    refine ⟨.inr (he33.nil), ?_⟩
    have hst := Stp.ext (ls := [[b27], [b4], [b6], blk a23_l21, [b18], [b_p0], M]) he33
    replace hb_p0 := he33.box hb_p0 nn
    replace hs_p0_0 := hs_p0_0.step hst
    replace hb4 := he33.box hb4 nn
    replace hs_p1_0 := hs_p1_0.step hst
    replace hb6 := he33.box hb6 nn
    replace hb18 := he33.box hb18 nn
    replace hj23_l21 := hj23_l21.step hst he33 nn2
    replace hb27 := he33.box hb27 nn
    replace hms := hms.ev he33
    replace hev := hev.ext he33
    refine x_pure 5 [(38, .tuple #[.int .i64 x32.1, .int .i64 x32.2]), (49, .int .i64 x32.1), (50, .int .i64 x32.2), (11, .int .i64 x32.1), (12, .int .i64 x32.2)] _ _ _ (by kernel_rfl) ?_
    refine x_end rfl (k_then ?_)
    refine c_norm [(0, .pointer (some ⟨b_p0, 0, none⟩)), (3, .pointer (some ⟨b4, 0, none⟩)), (4, .pointer (some ⟨b6, 0, none⟩)), (8, .pointer (some ⟨b18, 0, none⟩)), (10, .pointer (some ⟨b27, 0, none⟩)), (11, .int .i64 x32.1), (12, .int .i64 x32.2), (32, .slice a_p1_0 (p1_0).length c_p1_0), (33, .int .i64 ((p1_0).length : Int)), (34, .int .i64 t34__s34_l21)] ⟨rfl, rfl, rfl, rfl, rfl, rfl, rfl, rfl, rfl, rfl, trivial⟩ (fun J => ?_)
    refine c_join (σ := Int) (fun s => match s with | c_s11_j34 => [(0, .pointer (some ⟨b_p0, 0, none⟩)), (3, .pointer (some ⟨b4, 0, none⟩)), (4, .pointer (some ⟨b6, 0, none⟩)), (8, .pointer (some ⟨b18, 0, none⟩)), (11, .int .i64 c_s11_j34), (32, .slice a_p1_0 (p1_0).length c_p1_0), (33, .int .i64 ((p1_0).length : Int)), (34, .int .i64 t34__s34_l21)]) (fun s w' => match s with | c_s11_j34 => law14_plan_J34 d23_l21 t34__s34_l21 x30 c_s11_j34 = some t21 ∧ Ev [b_p0] w w' ∧ MS w' [[b4], [b6], blk a23_l21, [b18], [b_p0], M] ∧ FR w.heap.size [[b4], [b6], blk a23_l21, [b18]] ∧ SlR (eInt .i64) w' (fl [[b4], [b6], blk a23_l21, [b18], [b_p0], M]) a_p0_0 c_p0_0 p0_0 ∧ w'.heap[b_p0]? = some (.cells #[.slice a_p0_0 (p0_0).length c_p0_0, .int .i64 x30.2] 67 (0, 0)) ∧ SlR (eProd (eInt .i64) (eProd (eInt .i64) (eProd (eInt .i64) (eInt .i64)))) w' (fl [[b4], [b6], blk a23_l21, [b18], [b_p0], M]) a_p1_0 c_p1_0 p1_0 ∧ w'.heap[b4]? = some (.cells #[.slice a_p1_0 (p1_0).length c_p1_0, .int .i64 p1_1] 27 (0, 0)) ∧ w'.heap[b6]? = some (.cells #[.int .i64 0, .slice none 0 0] 30 (0, 0)) ∧ OwnS (eInt .i64) 3 w' (fl [[b4], [b6], blk a23_l21, [b18], [b_p0], M]) a23_l21 c23_l21 d23_l21 ∧ w'.heap[b18]? = some (.cells #[.int .i64 (if (IntKind.i64.wrap (most_s5_l9 + x16.1)) < 12 then (IntKind.i64.wrap (most_s5_l9 + x16.1)) else 12), .slice a23_l21 (d23_l21).length c23_l21] 30 (0, 0))) ?_ ?_
    · refine c_seq (c_plain ?_)
      refine x_pure 3 [(51, .int .i64 x32.2), (52, .bool (x32.2 != 0)), (53, .bool (x32.2 != 0))] _ _ _ (by kernel_rfl) ?_
      refine x_split 53 (x32.2 != 0) rfl (fun hb => ?_) (fun hb => ?_)
      · replace h := ite_t hb h
        refine x_pure 6 [(54, undef), (55, undef), (56, undef), (57, undef), (58, undef), (59, .bool true)] _ _ _ (by kernel_rfl) ?_
        refine x_end rfl (k_then ?_)
        refine c_true rfl ?_
        refine c_plain ?_
        refine x_fieldAddr (xv := .pointer (some ⟨b27, 0, none⟩)) (.pointer (some ⟨b27, 2, none⟩)) rfl rfl rfl (reads_field tfld39_2 _ _) ?_
        refine x_load (xv := .pointer (some ⟨b27, 2, none⟩)) (.int .i64 x25.2.2.1) rfl rfl rfl (reads_box tcell3 hb27 nn 2 _ rfl) ?_
        refine x_binop (.int .i64 (IntKind.i64.wrap (1 * 2 ^ (min (Int.toNat (x25.2.2.1)) IntKind.i64.bits)))) (.int .i64 1) (.int .i64 x25.2.2.1) rfl rfl rfl rfl (vb_shl (guard_l h)) ?_
        replace h := guard_r h
        refine x_pure 2 [(63, .int .i64 (IntKind.i64.wrap ((IntKind.i64.wrap (1 * 2 ^ (min (Int.toNat (x25.2.2.1)) IntKind.i64.bits))) - 1))), (11, .int .i64 (IntKind.i64.wrap ((IntKind.i64.wrap (1 * 2 ^ (min (Int.toNat (x25.2.2.1)) IntKind.i64.bits))) - 1)))] _ _ _ (by kernel_rfl) ?_
        refine x_end rfl ?_
        have hpk : MS w33 [[b4], [b6], blk a23_l21, [b18], [b_p0], M] := hms.pick [some 1, some 2, some 3, some 4, some 5, some 6] _ rfl
        have hsu : ∀ x ∈ fl [[b4], [b6], blk a23_l21, [b18], [b_p0], M], x ∈ fl [[b27], [b4], [b6], blk a23_l21, [b18], [b_p0], M] := pick_sub [some 1, some 2, some 3, some 4, some 5, some 6] _ rfl
        replace hs_p0_0 := hs_p0_0.sub hsu
        replace hs_p1_0 := hs_p1_0.sub hsu
        replace hj23_l21 := hj23_l21.sub hsu
        replace hms := hpk
        replace hfr : FR w.heap.size [[b4], [b6], blk a23_l21, [b18]] := hfr.pick [some 1, some 2, some 3, some 4] _ rfl
        clear hpk hsu
        exact k_then ⟨IntKind.i64.wrap ((IntKind.i64.wrap (1 * 2 ^ (min (Int.toNat (x25.2.2.1)) IntKind.i64.bits))) - 1), ⟨rfl, rfl, rfl, rfl, rfl, rfl, rfl, rfl, trivial⟩, h, hev, hms, hfr, hs_p0_0, hb_p0, hs_p1_0, hb4, hb6, hj23_l21, hb18⟩
      replace h := ite_f hb h
      refine x_pure 1 [(54, .int .i64 x32.1)] _ _ _ (by kernel_rfl) ?_
      refine x_fieldAddr (xv := .pointer (some ⟨b18, 0, none⟩)) (.pointer (some ⟨b18, 0, none⟩)) rfl rfl rfl (reads_field tfld30_0 _ _) ?_
      refine x_load (xv := .pointer (some ⟨b18, 0, none⟩)) (.int .i64 (if (IntKind.i64.wrap (most_s5_l9 + x16.1)) < 12 then (IntKind.i64.wrap (most_s5_l9 + x16.1)) else 12)) rfl rfl rfl (reads_box tcell3 hb18 nn 0 _ rfl) ?_
      refine x_binop (.int .i64 (IntKind.i64.wrap (1 * 2 ^ (min (Int.toNat ((if (IntKind.i64.wrap (most_s5_l9 + x16.1)) < 12 then (IntKind.i64.wrap (most_s5_l9 + x16.1)) else 12))) IntKind.i64.bits)))) (.int .i64 1) (.int .i64 (if (IntKind.i64.wrap (most_s5_l9 + x16.1)) < 12 then (IntKind.i64.wrap (most_s5_l9 + x16.1)) else 12)) rfl rfl rfl rfl (vb_shl (guard_l h)) ?_
      replace h := guard_r h
      refine x_pure 2 [(58, .bool (decide (x32.1 ≥ (IntKind.i64.wrap (1 * 2 ^ (min (Int.toNat ((if (IntKind.i64.wrap (most_s5_l9 + x16.1)) < 12 then (IntKind.i64.wrap (most_s5_l9 + x16.1)) else 12))) IntKind.i64.bits)))))), (59, .bool (decide (x32.1 ≥ (IntKind.i64.wrap (1 * 2 ^ (min (Int.toNat ((if (IntKind.i64.wrap (most_s5_l9 + x16.1)) < 12 then (IntKind.i64.wrap (most_s5_l9 + x16.1)) else 12))) IntKind.i64.bits))))))] _ _ _ (by kernel_rfl) ?_
      refine x_end rfl (k_then ?_)
      refine c_cond (decide (x32.1 ≥ (IntKind.i64.wrap (1 * 2 ^ (min (Int.toNat ((if (IntKind.i64.wrap (most_s5_l9 + x16.1)) < 12 then (IntKind.i64.wrap (most_s5_l9 + x16.1)) else 12))) IntKind.i64.bits))))) rfl (fun hb => ?_) (fun hb => ?_)
      · replace h := ite_t hb h
        refine c_plain ?_
        refine x_fieldAddr (xv := .pointer (some ⟨b27, 0, none⟩)) (.pointer (some ⟨b27, 2, none⟩)) rfl rfl rfl (reads_field tfld39_2 _ _) ?_
        refine x_load (xv := .pointer (some ⟨b27, 2, none⟩)) (.int .i64 x25.2.2.1) rfl rfl rfl (reads_box tcell3 hb27 nn 2 _ rfl) ?_
        refine x_binop (.int .i64 (IntKind.i64.wrap (1 * 2 ^ (min (Int.toNat (x25.2.2.1)) IntKind.i64.bits)))) (.int .i64 1) (.int .i64 x25.2.2.1) rfl rfl rfl rfl (vb_shl (guard_l h)) ?_
        replace h := guard_r h
        refine x_pure 2 [(63, .int .i64 (IntKind.i64.wrap ((IntKind.i64.wrap (1 * 2 ^ (min (Int.toNat (x25.2.2.1)) IntKind.i64.bits))) - 1))), (11, .int .i64 (IntKind.i64.wrap ((IntKind.i64.wrap (1 * 2 ^ (min (Int.toNat (x25.2.2.1)) IntKind.i64.bits))) - 1)))] _ _ _ (by kernel_rfl) ?_
        refine x_end rfl ?_
        have hpk : MS w33 [[b4], [b6], blk a23_l21, [b18], [b_p0], M] := hms.pick [some 1, some 2, some 3, some 4, some 5, some 6] _ rfl
        have hsu : ∀ x ∈ fl [[b4], [b6], blk a23_l21, [b18], [b_p0], M], x ∈ fl [[b27], [b4], [b6], blk a23_l21, [b18], [b_p0], M] := pick_sub [some 1, some 2, some 3, some 4, some 5, some 6] _ rfl
        replace hs_p0_0 := hs_p0_0.sub hsu
        replace hs_p1_0 := hs_p1_0.sub hsu
        replace hj23_l21 := hj23_l21.sub hsu
        replace hms := hpk
        replace hfr : FR w.heap.size [[b4], [b6], blk a23_l21, [b18]] := hfr.pick [some 1, some 2, some 3, some 4] _ rfl
        clear hpk hsu
        exact k_then ⟨IntKind.i64.wrap ((IntKind.i64.wrap (1 * 2 ^ (min (Int.toNat (x25.2.2.1)) IntKind.i64.bits))) - 1), ⟨rfl, rfl, rfl, rfl, rfl, rfl, rfl, rfl, trivial⟩, h, hev, hms, hfr, hs_p0_0, hb_p0, hs_p1_0, hb4, hb6, hj23_l21, hb18⟩
      replace h := ite_f hb h
      refine c_skip ?_
      have hpk : MS w33 [[b4], [b6], blk a23_l21, [b18], [b_p0], M] := hms.pick [some 1, some 2, some 3, some 4, some 5, some 6] _ rfl
      have hsu : ∀ x ∈ fl [[b4], [b6], blk a23_l21, [b18], [b_p0], M], x ∈ fl [[b27], [b4], [b6], blk a23_l21, [b18], [b_p0], M] := pick_sub [some 1, some 2, some 3, some 4, some 5, some 6] _ rfl
      replace hs_p0_0 := hs_p0_0.sub hsu
      replace hs_p1_0 := hs_p1_0.sub hsu
      replace hj23_l21 := hj23_l21.sub hsu
      replace hms := hpk
      replace hfr : FR w.heap.size [[b4], [b6], blk a23_l21, [b18]] := hfr.pick [some 1, some 2, some 3, some 4] _ rfl
      clear hpk hsu
      exact k_then ⟨x32.1, ⟨rfl, rfl, rfl, rfl, rfl, rfl, rfl, rfl, trivial⟩, h, hev, hms, hfr, hs_p0_0, hb_p0, hs_p1_0, hb4, hb6, hj23_l21, hb18⟩
    rintro c_s11_j34 J wj34 ⟨h, hev, hms, hfr, hs_p0_0, hb_p0, hs_p1_0, hb4, hb6, hj23_l21, hb18⟩
    refine c_plain ?_
    refine x_fieldAddr (xv := .pointer (some ⟨b18, 0, none⟩)) (.pointer (some ⟨b18, 1, none⟩)) rfl rfl rfl (reads_field tfld30_1 _ _) ?_
    refine x_load (xv := .pointer (some ⟨b18, 1, none⟩)) (.slice a23_l21 (d23_l21).length c23_l21) rfl rfl rfl (reads_box tcell22 hb18 nn 1 _ rfl) ?_
    refine x_pure 1 [(66, .int .i64 c_s11_j34)] _ _ _ (by kernel_rfl) ?_
    refine x_buildSlice (vs := [(0, .int .i64 c_s11_j34)]) #[.int .i64 c_s11_j34] 3 rfl rfl rfl (by kernel_rfl) (fun b35 w35 hq35 hb35 he35 hz35 => ?_)
    refine ⟨.inl rfl, ?_⟩
    have hms0 := hms
    have hst := Stp.ext (ls := [[b4], [b6], blk a23_l21, [b18], [b_p0], M]) he35
    replace hb_p0 := he35.box hb_p0 nn
    replace hs_p0_0 := hs_p0_0.step hst
    replace hb4 := he35.box hb4 nn
    replace hs_p1_0 := hs_p1_0.step hst
    replace hb6 := he35.box hb6 nn
    replace hb18 := he35.box hb18 nn
    replace hj23_l21 := hj23_l21.step hst he35 nn2
    replace hms := hms.ev he35
    replace hev := hev.ext he35
    have hs35 : SlR (eInt .i64) w35 (fl [[b4], [b6], blk a23_l21, [b18], [b_p0], M]) (some ⟨b35, 0, none⟩) 1 ([c_s11_j34]) := ro_of_box hms0 hq35 hb35 rfl rfl (cells_at (cs := [.int .i64 c_s11_j34]) (CellsOf.cons (c := [.int .i64 c_s11_j34]) rfl CellsOf.nil))
    clear hb35 hms0
    have hg := guard_l h
    replace h := guard_r h
    obtain ⟨a37, c37, w37, hr37, he37, hn37, hm37, hw37⟩ := own_appendN tel22 22 hj23_l21 (mem_flat 2 rfl) hs35 hg
    refine x_builtin (vs := [.slice a23_l21 (d23_l21).length c23_l21, .slice (some ⟨b35, 0, none⟩) ([c_s11_j34]).length 1]) _ w37 rfl rfl rfl rfl (run_value _ _ _ _ hr37) ?_
    refine ⟨.inl rfl, ?_⟩
    have hst : Stp (fl [[b4], [b6], blk a23_l21, [b18], [b_p0], M]) w35 (fl [[b4], [b6], blk a37, [b18], [b_p0], M]) w37 := Stp.upd 2 he37 rfl (fun b hb => (hn37 b hb).1)
    replace hb_p0 := he37.box hb_p0 (hms.apart 4 2 rfl rfl rfl _ (List.mem_singleton.2 rfl))
    replace hs_p0_0 := hs_p0_0.step hst
    replace hb4 := he37.box hb4 (hms.apart 0 2 rfl rfl rfl _ (List.mem_singleton.2 rfl))
    replace hs_p1_0 := hs_p1_0.step hst
    replace hb6 := he37.box hb6 (hms.apart 1 2 rfl rfl rfl _ (List.mem_singleton.2 rfl))
    replace hb18 := he37.box hb18 (hms.apart 3 2 rfl rfl rfl _ (List.mem_singleton.2 rfl))
    replace hs35 := hs35.step hst
    replace hms : MS w37 [[b4], [b6], blk a37, [b18], [b_p0], M] := hms.upd 2 he37 rfl hn37
    have hfr2 : FR w.heap.size [[b4], [b6], blk a37, [b18]] := hfr.upd 2 rfl hev.size (fun b hb => (hn37 b hb).1)
    replace hev := hev.then he37 (fun b hb => .inr (hfr.at 2 rfl b hb))
    replace hfr := hfr2
    clear hfr2
    replace hj23_l21 := hw37 (fl [[b4], [b6], blk a37, [b18], [b_p0], M]) hst.new
    clear hw37
    refine x_fieldAddr (xv := .pointer (some ⟨b18, 0, none⟩)) (.pointer (some ⟨b18, 1, none⟩)) rfl rfl rfl (reads_field tfld30_1 _ _) ?_
    obtain ⟨w38, hr38, hb38, he38⟩ := store_box 1 (.slice a37 ((d23_l21 ++ [c_s11_j34])).length c37) #[.int .i64 (if (IntKind.i64.wrap (most_s5_l9 + x16.1)) < 12 then (IntKind.i64.wrap (most_s5_l9 + x16.1)) else 12), .slice a37 ((d23_l21 ++ [c_s11_j34])).length c37] tcell22 hb18 rfl rfl rfl
    refine x_store w38 (xv := .pointer (some ⟨b18, 1, none⟩)) (yv := .slice a37 ((d23_l21 ++ [c_s11_j34])).length c37) rfl rfl rfl rfl hr38 ?_
    refine ⟨.inl rfl, ?_⟩
    have hst := Stp.ev' (ls := [[b4], [b6], blk a37, [b18], [b_p0], M]) he38 (mem_flat 3 rfl)
    replace hb_p0 := he38.box hb_p0 (hms.apart 4 3 rfl rfl rfl _ (List.mem_singleton.2 rfl))
    replace hs_p0_0 := hs_p0_0.step hst
    replace hb4 := he38.box hb4 (hms.apart 0 3 rfl rfl rfl _ (List.mem_singleton.2 rfl))
    replace hs_p1_0 := hs_p1_0.step hst
    replace hb6 := he38.box hb6 (hms.apart 1 3 rfl rfl rfl _ (List.mem_singleton.2 rfl))
    replace hj23_l21 := hj23_l21.step hst he38 (hms.apart 2 3 rfl rfl rfl)
    replace hs35 := hs35.step hst
    replace hms := hms.ev he38
    replace hev := hev.then he38 (fun b hb => .inr (hfr.at 3 rfl b hb))
    replace hb18 := hb38
    refine x_end rfl ?_
    refine k_block ?_
    refine k_then ?_
    refine c_norm [(0, .pointer (some ⟨b_p0, 0, none⟩)), (3, .pointer (some ⟨b4, 0, none⟩)), (4, .pointer (some ⟨b6, 0, none⟩)), (8, .pointer (some ⟨b18, 0, none⟩)), (32, .slice a_p1_0 (p1_0).length c_p1_0), (33, .int .i64 ((p1_0).length : Int)), (34, .int .i64 t34__s34_l21)] ⟨rfl, rfl, rfl, rfl, rfl, rfl, rfl, trivial⟩ (fun J => ?_)
    refine c_plain ?_
    refine x_pure 2 [(70, .int .i64 (IntKind.i64.wrap (t34__s34_l21 + 1))), (34, .int .i64 (IntKind.i64.wrap (t34__s34_l21 + 1)))] _ _ _ (by kernel_rfl) ?_
    refine x_end rfl ?_
    have hx := some_inj h
    subst hx
    exact k_then ⟨(m21, x30.2, (d23_l21 ++ [c_s11_j34]), IntKind.i64.wrap (t34__s34_l21 + 1), a37, c37), ⟨rfl, rfl, rfl, rfl, rfl, rfl, rfl, trivial⟩, ⟨hn21, hev, hms, hfr, hs_p0_0, hb_p0, hs_p1_0, hb4, hb6, hj23_l21, hb18⟩, Nat.lt_succ_self _⟩
  replace h := ite_f hb h
  refine c_exit ?_
  refine k_then_exit ?_
  have hx := some_inj h
  subst hx
  have hy := some_inj hn21
  subst hy
  replace h := h21
  refine k_then_exit ?_
  refine k_block_in ?_
  refine k_then ?_
  refine c_norm [(4, .pointer (some ⟨b6, 0, none⟩)), (8, .pointer (some ⟨b18, 0, none⟩))] ⟨rfl, rfl, trivial⟩ (fun J => ?_)
  refine c_seq (c_plain ?_)
  refine x_load (xv := .pointer (some ⟨b18, 0, none⟩)) (.agg #[.int .i64 (if (IntKind.i64.wrap (most_s5_l9 + x16.1)) < 12 then (IntKind.i64.wrap (most_s5_l9 + x16.1)) else 12), .slice a23_l21 (d23_l21).length c23_l21]) rfl rfl rfl (reads_boxagg 0 [.int .i64 (if (IntKind.i64.wrap (most_s5_l9 + x16.1)) < 12 then (IntKind.i64.wrap (most_s5_l9 + x16.1)) else 12), .slice a23_l21 (d23_l21).length c23_l21] tagg30 hb18 nn rfl) ?_
  obtain ⟨w39, hr39, hb39, he39⟩ := store_boxagg 0 [.int .i64 (if (IntKind.i64.wrap (most_s5_l9 + x16.1)) < 12 then (IntKind.i64.wrap (most_s5_l9 + x16.1)) else 12), .slice a23_l21 (d23_l21).length c23_l21] #[.int .i64 (if (IntKind.i64.wrap (most_s5_l9 + x16.1)) < 12 then (IntKind.i64.wrap (most_s5_l9 + x16.1)) else 12), .slice a23_l21 (d23_l21).length c23_l21] tagg30 hb6 rfl rfl rfl
  refine x_store w39 (xv := .pointer (some ⟨b6, 0, none⟩)) (yv := .agg #[.int .i64 (if (IntKind.i64.wrap (most_s5_l9 + x16.1)) < 12 then (IntKind.i64.wrap (most_s5_l9 + x16.1)) else 12), .slice a23_l21 (d23_l21).length c23_l21]) rfl rfl rfl rfl hr39 ?_
  refine ⟨.inl rfl, ?_⟩
  have hst := Stp.ev' (ls := [[b4], [b6], blk a23_l21, [b18], [b_p0], M]) he39 (mem_flat 1 rfl)
  replace hb_p0 := he39.box hb_p0 (hms.apart 4 1 rfl rfl rfl _ (List.mem_singleton.2 rfl))
  replace hs_p0_0 := hs_p0_0.step hst
  replace hb4 := he39.box hb4 (hms.apart 0 1 rfl rfl rfl _ (List.mem_singleton.2 rfl))
  replace hs_p1_0 := hs_p1_0.step hst
  replace hb18 := he39.box hb18 (hms.apart 3 1 rfl rfl rfl _ (List.mem_singleton.2 rfl))
  replace hj23_l21 := hj23_l21.step hst he39 (hms.apart 2 1 rfl rfl rfl)
  replace hms := hms.ev he39
  replace hev := hev.then he39 (fun b hb => .inr (hfr.at 1 rfl b hb))
  replace hb6 := hb39
  refine x_end rfl (k_then ?_)
  refine c_ret ?_
  refine r_ret (r_vals [.agg #[.int .i64 (if (IntKind.i64.wrap (most_s5_l9 + x16.1)) < 12 then (IntKind.i64.wrap (most_s5_l9 + x16.1)) else 12), .slice a23_l21 (d23_l21).length c23_l21]] ⟨⟨_, rfl, loadVar_of_reads (reads_boxagg (Mo := []) 0 [.int .i64 (if (IntKind.i64.wrap (most_s5_l9 + x16.1)) < 12 then (IntKind.i64.wrap (most_s5_l9 + x16.1)) else 12), .slice a23_l21 (d23_l21).length c23_l21] tagg30 hb6 nn rfl)⟩, trivial⟩ ?_)
  have hx := some_inj h
  subst hx
  have hmr : MS w39 [blk a23_l21, [b_p0], M] := hms.pick [some 2, some 4, some 5] _ rfl
  have hsu : ∀ x ∈ fl [blk a23_l21, [b_p0], M], x ∈ fl [[b4], [b6], blk a23_l21, [b18], [b_p0], M] := pick_sub [some 2, some 4, some 5] _ rfl
  have hfe : FR w.heap.size [blk a23_l21] := hfr.pick [some 2] _ rfl
  exact ⟨a23_l21, c23_l21, rfl, hev, hb_p0, hmr, hfe, hj23_l21.sub hsu⟩
end Go.Proofs.Ytmjobkpgnhbcbaa
