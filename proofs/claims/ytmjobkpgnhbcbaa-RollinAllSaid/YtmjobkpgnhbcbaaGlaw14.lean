/- Walks, printed by program: each function returns what the partial function of the same name returns. Conditions: those of each theorem. -/
import Derived.Test.YtmjobkpgnhbcbaaGT
import Derived.Test.YtmjobkpgnhbcbaaGgen
import Derived.Test.YtmjobkpgnhbcbaaGr12
import Derived.Test.YtmjobkpgnhbcbaaGr14
import Derived.Test.YtmjobkpgnhbcbaaGrollin
set_option linter.unusedVariables false
set_option linter.unusedSimpArgs false
set_option maxRecDepth 4000
namespace Go.Proofs.Ytmjobkpgnhbcbaa
open Go Go.V Go.Proofs
def law14_plan_J34 (d23_l21 : List Int) (t34__s34_l21 : Int) (x30 : Int × Int) (c_s11_j34 : Int) : Option (Step (Int × (List Int) × Int) (Int × (List Int))) :=
(if d23_l21.length + ([c_s11_j34]).length ≤ 4294967296 then
some (.next (x30.2, (d23_l21 ++ [c_s11_j34]), IntKind.i64.wrap (t34__s34_l21 + 1)))
else none)

def law14_plan_L21 (k_0_l : List Int) (j_1_Items : List (Int × Int × Int × Int)) (j_1_Weight : Int) (most_s5_x9 : Int) (x16 : Int × Int) (s : Int × (List Int) × Int) : Option (Step (Int × (List Int) × Int) (Int × (List Int))) :=
match s with
| (e2_l21_1, d23_l21, t34__s34_l21) =>
(if (decide (t34__s34_l21 < ((j_1_Items).length : Int))) = true then
((idx j_1_Items t34__s34_l21).bind fun x25 =>
(if 0 ≤ if (IntKind.i64.wrap (most_s5_x9 + x16.1)) < 12 then (IntKind.i64.wrap (most_s5_x9 + x16.1)) else 12 then
((gen_Maker_Next k_0_l e2_l21_1 (IntKind.i64.wrap (1 * 2 ^ (min (Int.toNat ((if (IntKind.i64.wrap (most_s5_x9 + x16.1)) < 12 then (IntKind.i64.wrap (most_s5_x9 + x16.1)) else 12))) IntKind.i64.bits)))).bind fun x30 =>
((r12_Next x30.1 x25.2.2.1 j_1_Weight).bind fun x32 =>
(if (x32.2 != 0) = true then
(if 0 ≤ x25.2.2.1 then
law14_plan_J34 d23_l21 t34__s34_l21 x30 (IntKind.i64.wrap ((IntKind.i64.wrap (1 * 2 ^ (min (Int.toNat (x25.2.2.1)) IntKind.i64.bits))) - 1))
else none)
else
(if 0 ≤ if (IntKind.i64.wrap (most_s5_x9 + x16.1)) < 12 then (IntKind.i64.wrap (most_s5_x9 + x16.1)) else 12 then
(if (decide (x32.1 ≥ (IntKind.i64.wrap (1 * 2 ^ (min (Int.toNat ((if (IntKind.i64.wrap (most_s5_x9 + x16.1)) < 12 then (IntKind.i64.wrap (most_s5_x9 + x16.1)) else 12))) IntKind.i64.bits))))) = true then
(if 0 ≤ x25.2.2.1 then
law14_plan_J34 d23_l21 t34__s34_l21 x30 (IntKind.i64.wrap ((IntKind.i64.wrap (1 * 2 ^ (min (Int.toNat (x25.2.2.1)) IntKind.i64.bits))) - 1))
else none)
else
law14_plan_J34 d23_l21 t34__s34_l21 x30 x32.1)
else none))))
else none))
else
some (.done (e2_l21_1, d23_l21)))

def law14_plan_L9 (j_1_Items : List (Int × Int × Int × Int)) (s : Int × Int) : Option (Step (Int × Int) Int) :=
match s with
| (most_s5_l9, t16__s16_l9) =>
(if (decide (t16__s16_l9 < ((j_1_Items).length : Int))) = true then
((idx j_1_Items t16__s16_l9).bind fun x11 =>
some (.next (if x11.2.2.1 > most_s5_l9 then x11.2.2.1 else most_s5_l9, IntKind.i64.wrap (t16__s16_l9 + 1))))
else
some (.done most_s5_l9))

def law14_plan (k_0_l : List Int) (k_0_n : Int) (j_1_Items : List (Int × Int × Int × Int)) (j_1_Weight : Int) : Option ((Int × (List Int)) × Int) :=
((loop (law14_plan_L9 j_1_Items) (0, 0)).bind fun d => match d with
| most_s5_x9 => ((gen_Maker_Next k_0_l k_0_n 5).bind fun x16 =>
((loop (law14_plan_L21 k_0_l j_1_Items j_1_Weight most_s5_x9 x16) (x16.2, ([] : List Int), 0)).bind fun d => match d with
| (e2_x21_1, d23_x21) => some ((if (IntKind.i64.wrap (most_s5_x9 + x16.1)) < 12 then (IntKind.i64.wrap (most_s5_x9 + x16.1)) else 12, d23_x21), e2_x21_1))))

theorem law14_plan_w (b_k_0 : Nat) (a_k_0_l : Option Addr) (c_k_0_l : Nat) (k_0_l : List Int) (k_0_n : Int) (a_j_1_Items : Option Addr) (c_j_1_Items : Nat) (j_1_Items : List (Int × Int × Int × Int)) (j_1_Weight : Int) (r : (Int × (List Int)) × Int) (w : World) (M : List Nat) (hms : MS w [[b_k_0], M]) (hs_k_0_l : SlR (eInt .i64) w (fl [[b_k_0], M]) a_k_0_l c_k_0_l k_0_l) (hb_k_0 : w.heap[b_k_0]? = some (.cells #[.slice a_k_0_l (k_0_l).length c_k_0_l, .int .i64 k_0_n] 67 (0, 0))) (hs_j_1_Items : SlR (eProd (eInt .i64) (eProd (eInt .i64) (eProd (eInt .i64) (eInt .i64)))) w (fl [[b_k_0], M]) a_j_1_Items c_j_1_Items j_1_Items) (h : law14_plan k_0_l k_0_n j_1_Items j_1_Weight = some r) : CallVC Try.prog 13 [.pointer (some ⟨b_k_0, 0, none⟩), .agg #[.slice a_j_1_Items (j_1_Items).length c_j_1_Items, .int .i64 j_1_Weight]] w fun v w' => ∃ (a0' : Option Addr), ∃ (c0' : Nat), v = .agg #[.int .i64 r.1.1, .slice a0' (r.1.2).length c0'] ∧ Ev [b_k_0] w w' ∧ w'.heap[b_k_0]? = some (.cells #[.slice a_k_0_l (k_0_l).length c_k_0_l, .int .i64 r.2] 67 (0, 0)) ∧ MS w' [blk a0', [b_k_0], M] ∧ FR w.heap.size [blk a0'] ∧ OwnS (eInt .i64) 3 w' (fl [blk a0', [b_k_0], M]) a0' c0' r.1.2 := by
  refine calls_vc hmx Try.func13 (by kernel_rfl) rfl (rs := [.cell 4 30]) rfl (by kernel_rfl) (args := [.pointer (some ⟨b_k_0, 0, none⟩), .agg #[.slice a_j_1_Items (j_1_Items).length c_j_1_Items, .int .i64 j_1_Weight]]) rfl ?_
  have hev : Ev [b_k_0] w w := Ev.refl _ _
  have hfr : FR w.heap.size [] := FR.nil _
  refine c_seq ?_
  refine c_plain ?_
  refine x_box (xv := .agg #[.slice a_j_1_Items (j_1_Items).length c_j_1_Items, .int .i64 j_1_Weight]) rfl rfl rfl (fun b4 w4 hq4 hb4 he4 _ => ?_)
  replace hb4 : w4.heap[b4]? = some (.cells #[.slice a_j_1_Items (j_1_Items).length c_j_1_Items, .int .i64 j_1_Weight] 27 (0, 0)) := hb4
  refine ⟨.inl rfl, ?_⟩
  have hst := Stp.box (ls := [[b_k_0], M]) he4 hq4
  replace hs_k_0_l := hs_k_0_l.step hst
  replace hb_k_0 := he4.box hb_k_0 (fun h => by cases h)
  replace hs_j_1_Items := hs_j_1_Items.step hst
  replace hms := hms.box he4 hq4 hb4
  replace hfr := hfr.box hev.size hq4
  replace hev := hev.ext he4
  refine x_alloc (z := .agg #[.int .i64 0, .slice none 0 0]) rfl rfl (by kernel_rfl) (fun b6 w6 hq6 hb6 he6 _ => ?_)
  replace hb6 : w6.heap[b6]? = some (.cells #[.int .i64 0, .slice none 0 0] 30 (0, 0)) := hb6
  refine ⟨.inl rfl, ?_⟩
  have hst := Stp.box (ls := [[b4], [b_k_0], M]) he6 hq6
  replace hs_k_0_l := hs_k_0_l.step hst
  replace hb_k_0 := he6.box hb_k_0 (fun h => by cases h)
  replace hs_j_1_Items := hs_j_1_Items.step hst
  replace hb4 := he6.box hb4 (fun h => by cases h)
  replace hms := hms.box he6 hq6 hb6
  replace hfr := hfr.box hev.size hq6
  replace hev := hev.ext he6
  refine x_end rfl ?_
  refine k_then ?_
  refine c_norm [(0, .pointer (some ⟨b_k_0, 0, none⟩)), (3, .pointer (some ⟨b4, 0, none⟩)), (4, .pointer (some ⟨b6, 0, none⟩))] ⟨rfl, rfl, rfl, trivial⟩ (fun J => ?_)
  refine c_seq ?_
  refine c_plain ?_
  refine x_pure 1 [(5, .int .i64 0)] _ _ _ (by kernel_rfl) ?_
  refine x_end rfl ?_
  refine k_then ?_
  refine c_norm [(0, .pointer (some ⟨b_k_0, 0, none⟩)), (3, .pointer (some ⟨b4, 0, none⟩)), (4, .pointer (some ⟨b6, 0, none⟩)), (5, .int .i64 0)] ⟨rfl, rfl, rfl, rfl, trivial⟩ (fun J => ?_)
  refine c_seq ?_
  refine c_seq ?_
  refine c_plain ?_
  refine x_fieldAddr (xv := .pointer (some ⟨b4, 0, none⟩)) (.pointer (some ⟨b4, 0, none⟩)) rfl rfl rfl (reads_field tfld27_0 _ _) ?_
  refine x_load (xv := .pointer (some ⟨b4, 0, none⟩)) (.slice a_j_1_Items (j_1_Items).length c_j_1_Items) rfl rfl rfl (reads_box tcell25 hb4 (fun h => by cases h) 0 _ rfl) ?_
  refine x_len (vs := [.slice a_j_1_Items (j_1_Items).length c_j_1_Items]) (.int .i64 ((j_1_Items).length : Int)) rfl rfl rfl (reads_len tsl25 _ _ _ _ _) ?_
  refine x_pure 1 [(16, .int .i64 0)] _ _ _ (by kernel_rfl) ?_
  refine x_end rfl ?_
  refine k_then ?_
  refine c_norm [(0, .pointer (some ⟨b_k_0, 0, none⟩)), (3, .pointer (some ⟨b4, 0, none⟩)), (4, .pointer (some ⟨b6, 0, none⟩)), (5, .int .i64 0), (14, .slice a_j_1_Items (j_1_Items).length c_j_1_Items), (15, .int .i64 ((j_1_Items).length : Int)), (16, .int .i64 0)] ⟨rfl, rfl, rfl, rfl, rfl, rfl, rfl, trivial⟩ (fun J => ?_)
  refine c_block ?_
  have hpk : MS w6 [[b4], [b6], [b_k_0], M] := hms.pick [some 1, some 0, some 2, some 3] _ rfl
  have hsu : ∀ x ∈ fl [[b4], [b6], [b_k_0], M], x ∈ fl [[b6], [b4], [b_k_0], M] := pick_sub [some 1, some 0, some 2, some 3] _ rfl
  replace hs_k_0_l := hs_k_0_l.sub hsu
  replace hs_j_1_Items := hs_j_1_Items.sub hsu
  replace hms := hpk
  replace hfr : FR w.heap.size [[b4], [b6]] := hfr.pick [some 1, some 0] _ rfl
  clear hpk hsu
  obtain ⟨d9, hd9, h9⟩ := bind_some h
  obtain ⟨m9, hd9⟩ := loop_some hd9
  refine c_loop (loop_rule hmx (σ := Nat × Int × Int) (fun s => match s with | (_, most_s5_l9, t16__s16_l9) => [(0, .pointer (some ⟨b_k_0, 0, none⟩)), (3, .pointer (some ⟨b4, 0, none⟩)), (4, .pointer (some ⟨b6, 0, none⟩)), (5, .int .i64 most_s5_l9), (14, .slice a_j_1_Items (j_1_Items).length c_j_1_Items), (15, .int .i64 ((j_1_Items).length : Int)), (16, .int .i64 t16__s16_l9)]) (fun s w' => match s with | (m, most_s5_l9, t16__s16_l9) => loopN (law14_plan_L9 j_1_Items) m (most_s5_l9, t16__s16_l9) = some d9 ∧ Ev [b_k_0] w w' ∧ MS w' [[b4], [b6], [b_k_0], M] ∧ FR w.heap.size [[b4], [b6]] ∧ SlR (eInt .i64) w' (fl [[b4], [b6], [b_k_0], M]) a_k_0_l c_k_0_l k_0_l ∧ w'.heap[b_k_0]? = some (.cells #[.slice a_k_0_l (k_0_l).length c_k_0_l, .int .i64 k_0_n] 67 (0, 0)) ∧ SlR (eProd (eInt .i64) (eProd (eInt .i64) (eProd (eInt .i64) (eInt .i64)))) w' (fl [[b4], [b6], [b_k_0], M]) a_j_1_Items c_j_1_Items j_1_Items ∧ w'.heap[b4]? = some (.cells #[.slice a_j_1_Items (j_1_Items).length c_j_1_Items, .int .i64 j_1_Weight] 27 (0, 0)) ∧ w'.heap[b6]? = some (.cells #[.int .i64 0, .slice none 0 0] 30 (0, 0))) (fun s => s.1) (m9, 0, 0) ⟨rfl, rfl, rfl, rfl, rfl, rfl, rfl, trivial⟩ ⟨hd9, hev, hms, hfr, hs_k_0_l, hb_k_0, hs_j_1_Items, hb4, hb6⟩ ?_)
  rintro ⟨m9, most_s5_l9, t16__s16_l9⟩ J wl9 ⟨hn9, hev, hms, hfr, hs_k_0_l, hb_k_0, hs_j_1_Items, hb4, hb6⟩
  rcases m9 with _ | m9
  · exact (loopN_zero hn9).elim
  obtain ⟨t9, h, hn9⟩ := bind_some hn9
  refine c_seq ?_
  refine c_plain ?_
  refine x_pure 1 [(17, .bool (decide (t16__s16_l9 < ((j_1_Items).length : Int))))] _ _ _ (by kernel_rfl) ?_
  refine x_end rfl ?_
  refine k_then ?_
  refine c_norm [(0, .pointer (some ⟨b_k_0, 0, none⟩)), (3, .pointer (some ⟨b4, 0, none⟩)), (4, .pointer (some ⟨b6, 0, none⟩)), (5, .int .i64 most_s5_l9), (14, .slice a_j_1_Items (j_1_Items).length c_j_1_Items), (15, .int .i64 ((j_1_Items).length : Int)), (16, .int .i64 t16__s16_l9), (17, .bool (decide (t16__s16_l9 < ((j_1_Items).length : Int))))] ⟨rfl, rfl, rfl, rfl, rfl, rfl, rfl, rfl, trivial⟩ (fun J => ?_)
  refine c_seq ?_
  refine c_cond (decide (t16__s16_l9 < ((j_1_Items).length : Int))) rfl (fun hb => ?_) (fun hb => ?_)
  · replace h := ite_t hb h
    refine c_skip ?_
    refine k_then ?_
    refine c_norm [(0, .pointer (some ⟨b_k_0, 0, none⟩)), (3, .pointer (some ⟨b4, 0, none⟩)), (4, .pointer (some ⟨b6, 0, none⟩)), (5, .int .i64 most_s5_l9), (14, .slice a_j_1_Items (j_1_Items).length c_j_1_Items), (15, .int .i64 ((j_1_Items).length : Int)), (16, .int .i64 t16__s16_l9)] ⟨rfl, rfl, rfl, rfl, rfl, rfl, rfl, trivial⟩ (fun J => ?_)
    refine c_seq ?_
    refine c_block ?_
    refine c_seq ?_
    refine c_plain ?_
    obtain ⟨x11, hx11, h⟩ := bind_some h
    obtain ⟨ad11, cs11, hr11, hc11, hR⟩ := reads_index (Mo := []) tsl25 hs_j_1_Items hx11
    obtain ⟨_, _, rfl, rfl, ⟨_, _, rfl, rfl, ⟨_, _, rfl, rfl, rfl⟩⟩⟩ := hR
    refine x_indexAddr (xv := .slice a_j_1_Items (j_1_Items).length c_j_1_Items) (yv := .int .i64 t16__s16_l9) (.pointer (some ad11)) rfl rfl rfl rfl hr11 ?_
    refine x_load (xv := .pointer (some ad11)) (.agg #[.int .i64 x11.1, .int .i64 x11.2.1, .int .i64 x11.2.2.1, .int .i64 x11.2.2.2]) rfl rfl rfl (reads_agg tagg39 hc11 (fun _ h => by cases h)) ?_
    refine x_alloc (z := .agg #[.int .i64 0, .int .i64 0, .int .i64 0, .int .i64 0]) rfl rfl (by kernel_rfl) (fun b13 w13 hq13 hb13 he13 _ => ?_)
    replace hb13 : w13.heap[b13]? = some (.cells #[.int .i64 0, .int .i64 0, .int .i64 0, .int .i64 0] 39 (0, 0)) := hb13
    refine ⟨.inl rfl, ?_⟩
    have hst := Stp.box (ls := [[b4], [b6], [b_k_0], M]) he13 hq13
    replace hb_k_0 := he13.box hb_k_0 (fun h => by cases h)
    replace hs_k_0_l := hs_k_0_l.step hst
    replace hb4 := he13.box hb4 (fun h => by cases h)
    replace hs_j_1_Items := hs_j_1_Items.step hst
    replace hb6 := he13.box hb6 (fun h => by cases h)
    replace hc11 := hc11.step hst
    replace hms := hms.box he13 hq13 hb13
    replace hfr := hfr.box hev.size hq13
    replace hev := hev.ext he13
    obtain ⟨w15, hr15, hb15, he15⟩ := store_boxagg 0 [.int .i64 x11.1, .int .i64 x11.2.1, .int .i64 x11.2.2.1, .int .i64 x11.2.2.2] #[.int .i64 x11.1, .int .i64 x11.2.1, .int .i64 x11.2.2.1, .int .i64 x11.2.2.2] tagg39 hb13 rfl rfl rfl
    refine x_store w15 (xv := .pointer (some ⟨b13, 0, none⟩)) (yv := .agg #[.int .i64 x11.1, .int .i64 x11.2.1, .int .i64 x11.2.2.1, .int .i64 x11.2.2.2]) rfl rfl rfl rfl hr15 ?_
    refine ⟨.inl rfl, ?_⟩
    have hst := Stp.ev' (ls := [[b13], [b4], [b6], [b_k_0], M]) he15 (mem_flat 0 rfl)
    replace hb_k_0 := he15.box hb_k_0 (hms.apart 3 0 rfl rfl rfl _ (List.mem_singleton.2 rfl))
    replace hs_k_0_l := hs_k_0_l.step hst
    replace hb4 := he15.box hb4 (hms.apart 1 0 rfl rfl rfl _ (List.mem_singleton.2 rfl))
    replace hs_j_1_Items := hs_j_1_Items.step hst
    replace hb6 := he15.box hb6 (hms.apart 2 0 rfl rfl rfl _ (List.mem_singleton.2 rfl))
    replace hc11 := hc11.step hst
    replace hms := hms.ev he15
    replace hev := hev.then he15 (fun b hb => .inr (hfr.at 0 rfl b hb))
    replace hb13 := hb15
    refine x_end rfl ?_
    refine k_then ?_
    refine c_norm [(0, .pointer (some ⟨b_k_0, 0, none⟩)), (3, .pointer (some ⟨b4, 0, none⟩)), (4, .pointer (some ⟨b6, 0, none⟩)), (5, .int .i64 most_s5_l9), (7, .pointer (some ⟨b13, 0, none⟩)), (14, .slice a_j_1_Items (j_1_Items).length c_j_1_Items), (15, .int .i64 ((j_1_Items).length : Int)), (16, .int .i64 t16__s16_l9)] ⟨rfl, rfl, rfl, rfl, rfl, rfl, rfl, rfl, trivial⟩ (fun J => ?_)
    refine c_plain ?_
    refine x_pure 1 [(20, .int .i64 most_s5_l9)] _ _ _ (by kernel_rfl) ?_
    refine x_fieldAddr (xv := .pointer (some ⟨b13, 0, none⟩)) (.pointer (some ⟨b13, 2, none⟩)) rfl rfl rfl (reads_field tfld39_2 _ _) ?_
    refine x_load (xv := .pointer (some ⟨b13, 2, none⟩)) (.int .i64 x11.2.2.1) rfl rfl rfl (reads_box tcell3 hb13 (fun h => by cases h) 2 _ rfl) ?_
    refine x_max (vs := [.int .i64 most_s5_l9, .int .i64 x11.2.2.1]) (.int .i64 (if x11.2.2.1 > most_s5_l9 then x11.2.2.1 else most_s5_l9)) rfl rfl rfl (fun _ _ => rfl) ?_
    refine x_pure 1 [(5, .int .i64 (if x11.2.2.1 > most_s5_l9 then x11.2.2.1 else most_s5_l9))] _ _ _ (by kernel_rfl) ?_
    refine x_end rfl ?_
    refine k_block ?_
    refine k_then ?_
    refine c_norm [(0, .pointer (some ⟨b_k_0, 0, none⟩)), (3, .pointer (some ⟨b4, 0, none⟩)), (4, .pointer (some ⟨b6, 0, none⟩)), (5, .int .i64 (if x11.2.2.1 > most_s5_l9 then x11.2.2.1 else most_s5_l9)), (14, .slice a_j_1_Items (j_1_Items).length c_j_1_Items), (15, .int .i64 ((j_1_Items).length : Int)), (16, .int .i64 t16__s16_l9)] ⟨rfl, rfl, rfl, rfl, rfl, rfl, rfl, trivial⟩ (fun J => ?_)
    refine c_plain ?_
    refine x_pure 2 [(24, .int .i64 (IntKind.i64.wrap (t16__s16_l9 + 1))), (16, .int .i64 (IntKind.i64.wrap (t16__s16_l9 + 1)))] _ _ _ (by kernel_rfl) ?_
    refine x_end rfl ?_
    have hx := some_inj h
    subst hx
    have hpk : MS w15 [[b4], [b6], [b_k_0], M] := hms.pick [some 1, some 2, some 3, some 4] _ rfl
    have hsu : ∀ x ∈ fl [[b4], [b6], [b_k_0], M], x ∈ fl [[b13], [b4], [b6], [b_k_0], M] := pick_sub [some 1, some 2, some 3, some 4] _ rfl
    replace hs_k_0_l := hs_k_0_l.sub hsu
    replace hs_j_1_Items := hs_j_1_Items.sub hsu
    replace hms := hpk
    replace hfr : FR w.heap.size [[b4], [b6]] := hfr.pick [some 1, some 2] _ rfl
    clear hpk hsu
    exact k_then ⟨(m9, if x11.2.2.1 > most_s5_l9 then x11.2.2.1 else most_s5_l9, IntKind.i64.wrap (t16__s16_l9 + 1)), ⟨rfl, rfl, rfl, rfl, rfl, rfl, rfl, trivial⟩, ⟨hn9, hev, hms, hfr, hs_k_0_l, hb_k_0, hs_j_1_Items, hb4, hb6⟩, Nat.lt_succ_self _⟩
  · replace h := ite_f hb h
    refine c_exit ?_
    refine k_then_exit ?_
    have hx := some_inj h
    subst hx
    have hy := some_inj hn9
    subst hy
    replace h := h9
    refine k_then_exit ?_
    refine k_block_in ?_
    refine k_then ?_
    refine c_norm [(0, .pointer (some ⟨b_k_0, 0, none⟩)), (3, .pointer (some ⟨b4, 0, none⟩)), (4, .pointer (some ⟨b6, 0, none⟩)), (5, .int .i64 most_s5_l9)] ⟨rfl, rfl, rfl, rfl, trivial⟩ (fun J => ?_)
    refine c_seq ?_
    refine c_plain ?_
    refine x_pure 2 [(25, .int .i64 most_s5_l9), (26, .pointer (some ⟨b_k_0, 0, none⟩))] _ _ _ (by kernel_rfl) ?_
    obtain ⟨x16, hx, h⟩ := bind_some h
    have hpk : MS wl9 ([[b_k_0]] ++ [[b4], [b6], M]) := hms.pick [some 2, some 0, some 1, some 3] _ rfl
    have hsb0 : ∀ x ∈ fl ([[b_k_0]] ++ [[b4], [b6], M]), x ∈ fl [[b4], [b6], [b_k_0], M] := pick_sub [some 2, some 0, some 1, some 3] _ rfl
    have hsb : ∀ x ∈ fl ([[b_k_0]] ++ [(fl [[b4], [b6], M])]), x ∈ fl [[b4], [b6], [b_k_0], M] := fun x hx => hsb0 x (fl_unfold x hx)
    have hcall := gen_Maker_Next_w b_k_0 a_k_0_l c_k_0_l k_0_l k_0_n 5 _ wl9 (fl [[b4], [b6], M]) (hpk.fold (P := [[b_k_0]])) (hs_k_0_l.sub hsb) hb_k_0 hx
    refine x_call 23 #[] #[] [.pointer (some ⟨b_k_0, 0, none⟩), .int .i64 5] _ rfl rfl rfl rfl hcall ?_
    rintro v w17 ⟨rfl, he17, hp17_0⟩
    clear hcall hx
    refine ⟨.inl rfl, ?_⟩
    have hpk2 : MS wl9 ([[b_k_0]] ++ [[b4], [b6], M]) := hms.pick [some 2, some 0, some 1, some 3] _ rfl
    have hsb2 : ∀ x ∈ fl ([[b_k_0]] ++ [[b4], [b6], M]), x ∈ fl [[b4], [b6], [b_k_0], M] := pick_sub [some 2, some 0, some 1, some 3] _ rfl
    have hst0 := Stp.call (LS := [[b4], [b6], [b_k_0], M]) (res := []) (par := [[b_k_0]]) (R := [[b4], [b6], M]) he17 (fun b hb => hsb2 b (fl_left' (P := [[b_k_0]]) b hb)) (FR.nil _) (NP.init _ _) (fun x hx => hsb2 x (fl_right' (P := [[b_k_0]]) x hx))
    have hsn : ∀ x ∈ fl [[b4], [b6], [b_k_0], M], x ∈ fl ([] ++ ([[b_k_0]] ++ [[b4], [b6], M])) := pick_sub [some 1, some 2, some 0, some 3] _ rfl
    have hst := hst0.res hsn
    replace hs_k_0_l := hs_k_0_l.step hst
    replace hb4 := he17.box hb4 ((MS.outs (P := [[b_k_0]]) hpk2 0 rfl) _ (List.mem_singleton.2 rfl))
    replace hs_j_1_Items := hs_j_1_Items.step hst
    replace hb6 := he17.box hb6 ((MS.outs (P := [[b_k_0]]) hpk2 1 rfl) _ (List.mem_singleton.2 rfl))
    replace hms := hms.ev he17
    replace hev := hev.then he17 (fun b hb => .inl (by simpa using hb))
    replace hb_k_0 := hp17_0
    clear hpk hsb hsb0 hpk2 hsb2 hst0 hsn hst
    refine x_pure 1 [(28, .int .i64 (IntKind.i64.wrap (most_s5_l9 + x16.1)))] _ _ _ (by kernel_rfl) ?_
    refine x_min (vs := [.int .i64 12, .int .i64 (IntKind.i64.wrap (most_s5_l9 + x16.1))]) (.int .i64 (if (IntKind.i64.wrap (most_s5_l9 + x16.1)) < 12 then (IntKind.i64.wrap (most_s5_l9 + x16.1)) else 12)) rfl rfl rfl (fun _ _ => rfl) ?_
    refine x_build (vs := [(0, .int .i64 (if (IntKind.i64.wrap (most_s5_l9 + x16.1)) < 12 then (IntKind.i64.wrap (most_s5_l9 + x16.1)) else 12))]) (.agg #[.int .i64 (if (IntKind.i64.wrap (most_s5_l9 + x16.1)) < 12 then (IntKind.i64.wrap (most_s5_l9 + x16.1)) else 12), .slice none 0 0]) rfl rfl rfl (fun _ _ => by kernel_rfl) ?_
    refine x_alloc (z := .agg #[.int .i64 0, .slice none 0 0]) rfl rfl (by kernel_rfl) (fun b18 w18 hq18 hb18 he18 _ => ?_)
    replace hb18 : w18.heap[b18]? = some (.cells #[.int .i64 0, .slice none 0 0] 30 (0, 0)) := hb18
    refine ⟨.inl rfl, ?_⟩
    have hst := Stp.box (ls := [[b4], [b6], [b_k_0], M]) he18 hq18
    replace hb_k_0 := he18.box hb_k_0 (fun h => by cases h)
    replace hs_k_0_l := hs_k_0_l.step hst
    replace hb4 := he18.box hb4 (fun h => by cases h)
    replace hs_j_1_Items := hs_j_1_Items.step hst
    replace hb6 := he18.box hb6 (fun h => by cases h)
    replace hms := hms.box he18 hq18 hb18
    replace hfr := hfr.box hev.size hq18
    replace hev := hev.ext he18
    obtain ⟨w20, hr20, hb20, he20⟩ := store_boxagg 0 [.int .i64 (if (IntKind.i64.wrap (most_s5_l9 + x16.1)) < 12 then (IntKind.i64.wrap (most_s5_l9 + x16.1)) else 12), .slice none 0 0] #[.int .i64 (if (IntKind.i64.wrap (most_s5_l9 + x16.1)) < 12 then (IntKind.i64.wrap (most_s5_l9 + x16.1)) else 12), .slice none 0 0] tagg30 hb18 rfl rfl rfl
    refine x_store w20 (xv := .pointer (some ⟨b18, 0, none⟩)) (yv := .agg #[.int .i64 (if (IntKind.i64.wrap (most_s5_l9 + x16.1)) < 12 then (IntKind.i64.wrap (most_s5_l9 + x16.1)) else 12), .slice none 0 0]) rfl rfl rfl rfl hr20 ?_
    refine ⟨.inl rfl, ?_⟩
    have hst := Stp.ev' (ls := [[b18], [b4], [b6], [b_k_0], M]) he20 (mem_flat 0 rfl)
    replace hb_k_0 := he20.box hb_k_0 (hms.apart 3 0 rfl rfl rfl _ (List.mem_singleton.2 rfl))
    replace hs_k_0_l := hs_k_0_l.step hst
    replace hb4 := he20.box hb4 (hms.apart 1 0 rfl rfl rfl _ (List.mem_singleton.2 rfl))
    replace hs_j_1_Items := hs_j_1_Items.step hst
    replace hb6 := he20.box hb6 (hms.apart 2 0 rfl rfl rfl _ (List.mem_singleton.2 rfl))
    replace hms := hms.ev he20
    replace hev := hev.then he20 (fun b hb => .inr (hfr.at 0 rfl b hb))
    replace hb18 := hb20
    refine x_end rfl ?_
    refine k_then ?_
    refine c_norm [(0, .pointer (some ⟨b_k_0, 0, none⟩)), (3, .pointer (some ⟨b4, 0, none⟩)), (4, .pointer (some ⟨b6, 0, none⟩)), (8, .pointer (some ⟨b18, 0, none⟩))] ⟨rfl, rfl, rfl, rfl, trivial⟩ (fun J => ?_)
    refine c_seq ?_
    refine c_seq ?_
    refine c_plain ?_
    refine x_fieldAddr (xv := .pointer (some ⟨b4, 0, none⟩)) (.pointer (some ⟨b4, 0, none⟩)) rfl rfl rfl (reads_field tfld27_0 _ _) ?_
    refine x_load (xv := .pointer (some ⟨b4, 0, none⟩)) (.slice a_j_1_Items (j_1_Items).length c_j_1_Items) rfl rfl rfl (reads_box tcell25 hb4 (fun h => by cases h) 0 _ rfl) ?_
    refine x_len (vs := [.slice a_j_1_Items (j_1_Items).length c_j_1_Items]) (.int .i64 ((j_1_Items).length : Int)) rfl rfl rfl (reads_len tsl25 _ _ _ _ _) ?_
    refine x_pure 1 [(34, .int .i64 0)] _ _ _ (by kernel_rfl) ?_
    refine x_end rfl ?_
    refine k_then ?_
    refine c_norm [(0, .pointer (some ⟨b_k_0, 0, none⟩)), (3, .pointer (some ⟨b4, 0, none⟩)), (4, .pointer (some ⟨b6, 0, none⟩)), (8, .pointer (some ⟨b18, 0, none⟩)), (32, .slice a_j_1_Items (j_1_Items).length c_j_1_Items), (33, .int .i64 ((j_1_Items).length : Int)), (34, .int .i64 0)] ⟨rfl, rfl, rfl, rfl, rfl, rfl, rfl, trivial⟩ (fun J => ?_)
    refine c_block ?_
    have hst := Stp.push (ls := [[b18], [b4], [b6], [b_k_0], M]) (l := blk none) (Ev.refl [] w20) (fun _ h => by cases h) (fun _ h => by cases h)
    replace hb_k_0 := (Ev.refl [] _).box hb_k_0 (fun h => by cases h)
    replace hs_k_0_l := hs_k_0_l.step hst
    replace hb4 := (Ev.refl [] _).box hb4 (fun h => by cases h)
    replace hs_j_1_Items := hs_j_1_Items.step hst
    replace hb6 := (Ev.refl [] _).box hb6 (fun h => by cases h)
    replace hb18 := (Ev.refl [] _).box hb18 (fun h => by cases h)
    replace hms := hms.push (l := blk none) (Ev.refl [] _) (fun _ h => by cases h)
    replace hfr := hfr.push (l := blk none) (fun _ h => by cases h)
    have ho22 := OwnS.nil (eInt .i64) 3 w20 (fl [blk none, [b18], [b4], [b6], [b_k_0], M])
    have hpk : MS w20 [[b4], [b6], blk none, [b18], [b_k_0], M] := hms.pick [some 2, some 3, some 0, some 1, some 4, some 5] _ rfl
    have hsu : ∀ x ∈ fl [[b4], [b6], blk none, [b18], [b_k_0], M], x ∈ fl [blk none, [b18], [b4], [b6], [b_k_0], M] := pick_sub [some 2, some 3, some 0, some 1, some 4, some 5] _ rfl
    replace hs_k_0_l := hs_k_0_l.sub hsu
    replace hs_j_1_Items := hs_j_1_Items.sub hsu
    replace ho22 := ho22.sub hsu
    replace hms := hpk
    replace hfr : FR w.heap.size [[b4], [b6], blk none, [b18]] := hfr.pick [some 2, some 3, some 0, some 1] _ rfl
    clear hpk hsu
    obtain ⟨d21, hd21, h21⟩ := bind_some h
    obtain ⟨m21, hd21⟩ := loop_some hd21
    refine c_loop (loop_rule hmx (σ := Nat × Int × (List Int) × Int × Option Addr × Nat) (fun s => match s with | (_, e2_l21_1, d23_l21, t34__s34_l21, a23_l21, c23_l21) => [(0, .pointer (some ⟨b_k_0, 0, none⟩)), (3, .pointer (some ⟨b4, 0, none⟩)), (4, .pointer (some ⟨b6, 0, none⟩)), (8, .pointer (some ⟨b18, 0, none⟩)), (32, .slice a_j_1_Items (j_1_Items).length c_j_1_Items), (33, .int .i64 ((j_1_Items).length : Int)), (34, .int .i64 t34__s34_l21)]) (fun s w' => match s with | (m, e2_l21_1, d23_l21, t34__s34_l21, a23_l21, c23_l21) => loopN (law14_plan_L21 k_0_l j_1_Items j_1_Weight most_s5_l9 x16) m (e2_l21_1, d23_l21, t34__s34_l21) = some d21 ∧ Ev [b_k_0] w w' ∧ MS w' [[b4], [b6], blk a23_l21, [b18], [b_k_0], M] ∧ FR w.heap.size [[b4], [b6], blk a23_l21, [b18]] ∧ SlR (eInt .i64) w' (fl [[b4], [b6], blk a23_l21, [b18], [b_k_0], M]) a_k_0_l c_k_0_l k_0_l ∧ w'.heap[b_k_0]? = some (.cells #[.slice a_k_0_l (k_0_l).length c_k_0_l, .int .i64 e2_l21_1] 67 (0, 0)) ∧ SlR (eProd (eInt .i64) (eProd (eInt .i64) (eProd (eInt .i64) (eInt .i64)))) w' (fl [[b4], [b6], blk a23_l21, [b18], [b_k_0], M]) a_j_1_Items c_j_1_Items j_1_Items ∧ w'.heap[b4]? = some (.cells #[.slice a_j_1_Items (j_1_Items).length c_j_1_Items, .int .i64 j_1_Weight] 27 (0, 0)) ∧ w'.heap[b6]? = some (.cells #[.int .i64 0, .slice none 0 0] 30 (0, 0)) ∧ OwnS (eInt .i64) 3 w' (fl [[b4], [b6], blk a23_l21, [b18], [b_k_0], M]) a23_l21 c23_l21 d23_l21 ∧ w'.heap[b18]? = some (.cells #[.int .i64 (if (IntKind.i64.wrap (most_s5_l9 + x16.1)) < 12 then (IntKind.i64.wrap (most_s5_l9 + x16.1)) else 12), .slice a23_l21 (d23_l21).length c23_l21] 30 (0, 0))) (fun s => s.1) (m21, x16.2, ([] : List Int), 0, none, 0) ⟨rfl, rfl, rfl, rfl, rfl, rfl, rfl, trivial⟩ ⟨hd21, hev, hms, hfr, hs_k_0_l, hb_k_0, hs_j_1_Items, hb4, hb6, ho22, hb18⟩ ?_)
    rintro ⟨m21, e2_l21_1, d23_l21, t34__s34_l21, a23_l21, c23_l21⟩ J wl21 ⟨hn21, hev, hms, hfr, hs_k_0_l, hb_k_0, hs_j_1_Items, hb4, hb6, hj23_l21, hb18⟩
    rcases m21 with _ | m21
    · exact (loopN_zero hn21).elim
    obtain ⟨t21, h, hn21⟩ := bind_some hn21
    refine c_seq ?_
    refine c_plain ?_
    refine x_pure 1 [(35, .bool (decide (t34__s34_l21 < ((j_1_Items).length : Int))))] _ _ _ (by kernel_rfl) ?_
    refine x_end rfl ?_
    refine k_then ?_
    refine c_norm [(0, .pointer (some ⟨b_k_0, 0, none⟩)), (3, .pointer (some ⟨b4, 0, none⟩)), (4, .pointer (some ⟨b6, 0, none⟩)), (8, .pointer (some ⟨b18, 0, none⟩)), (32, .slice a_j_1_Items (j_1_Items).length c_j_1_Items), (33, .int .i64 ((j_1_Items).length : Int)), (34, .int .i64 t34__s34_l21), (35, .bool (decide (t34__s34_l21 < ((j_1_Items).length : Int))))] ⟨rfl, rfl, rfl, rfl, rfl, rfl, rfl, rfl, trivial⟩ (fun J => ?_)
    refine c_seq ?_
    refine c_cond (decide (t34__s34_l21 < ((j_1_Items).length : Int))) rfl (fun hb => ?_) (fun hb => ?_)
    · replace h := ite_t hb h
      refine c_skip ?_
      refine k_then ?_
      refine c_norm [(0, .pointer (some ⟨b_k_0, 0, none⟩)), (3, .pointer (some ⟨b4, 0, none⟩)), (4, .pointer (some ⟨b6, 0, none⟩)), (8, .pointer (some ⟨b18, 0, none⟩)), (32, .slice a_j_1_Items (j_1_Items).length c_j_1_Items), (33, .int .i64 ((j_1_Items).length : Int)), (34, .int .i64 t34__s34_l21)] ⟨rfl, rfl, rfl, rfl, rfl, rfl, rfl, trivial⟩ (fun J => ?_)
      refine c_seq ?_
      refine c_block ?_
      refine c_seq ?_
      refine c_plain ?_
      obtain ⟨x25, hx25, h⟩ := bind_some h
      obtain ⟨ad25, cs25, hr25, hc25, hR⟩ := reads_index (Mo := []) tsl25 hs_j_1_Items hx25
      obtain ⟨_, _, rfl, rfl, ⟨_, _, rfl, rfl, ⟨_, _, rfl, rfl, rfl⟩⟩⟩ := hR
      refine x_indexAddr (xv := .slice a_j_1_Items (j_1_Items).length c_j_1_Items) (yv := .int .i64 t34__s34_l21) (.pointer (some ad25)) rfl rfl rfl rfl hr25 ?_
      refine x_load (xv := .pointer (some ad25)) (.agg #[.int .i64 x25.1, .int .i64 x25.2.1, .int .i64 x25.2.2.1, .int .i64 x25.2.2.2]) rfl rfl rfl (reads_agg tagg39 hc25 (fun _ h => by cases h)) ?_
      refine x_alloc (z := .agg #[.int .i64 0, .int .i64 0, .int .i64 0, .int .i64 0]) rfl rfl (by kernel_rfl) (fun b27 w27 hq27 hb27 he27 _ => ?_)
      replace hb27 : w27.heap[b27]? = some (.cells #[.int .i64 0, .int .i64 0, .int .i64 0, .int .i64 0] 39 (0, 0)) := hb27
      refine ⟨.inl rfl, ?_⟩
      have hst := Stp.box (ls := [[b4], [b6], blk a23_l21, [b18], [b_k_0], M]) he27 hq27
      replace hb_k_0 := he27.box hb_k_0 (fun h => by cases h)
      replace hs_k_0_l := hs_k_0_l.step hst
      replace hb4 := he27.box hb4 (fun h => by cases h)
      replace hs_j_1_Items := hs_j_1_Items.step hst
      replace hb6 := he27.box hb6 (fun h => by cases h)
      replace hb18 := he27.box hb18 (fun h => by cases h)
      replace hj23_l21 := hj23_l21.step hst he27 (fun _ _ h => by cases h)
      replace hc25 := hc25.step hst
      replace hms := hms.box he27 hq27 hb27
      replace hfr := hfr.box hev.size hq27
      replace hev := hev.ext he27
      obtain ⟨w29, hr29, hb29, he29⟩ := store_boxagg 0 [.int .i64 x25.1, .int .i64 x25.2.1, .int .i64 x25.2.2.1, .int .i64 x25.2.2.2] #[.int .i64 x25.1, .int .i64 x25.2.1, .int .i64 x25.2.2.1, .int .i64 x25.2.2.2] tagg39 hb27 rfl rfl rfl
      refine x_store w29 (xv := .pointer (some ⟨b27, 0, none⟩)) (yv := .agg #[.int .i64 x25.1, .int .i64 x25.2.1, .int .i64 x25.2.2.1, .int .i64 x25.2.2.2]) rfl rfl rfl rfl hr29 ?_
      refine ⟨.inl rfl, ?_⟩
      have hst := Stp.ev' (ls := [[b27], [b4], [b6], blk a23_l21, [b18], [b_k_0], M]) he29 (mem_flat 0 rfl)
      replace hb_k_0 := he29.box hb_k_0 (hms.apart 5 0 rfl rfl rfl _ (List.mem_singleton.2 rfl))
      replace hs_k_0_l := hs_k_0_l.step hst
      replace hb4 := he29.box hb4 (hms.apart 1 0 rfl rfl rfl _ (List.mem_singleton.2 rfl))
      replace hs_j_1_Items := hs_j_1_Items.step hst
      replace hb6 := he29.box hb6 (hms.apart 2 0 rfl rfl rfl _ (List.mem_singleton.2 rfl))
      replace hb18 := he29.box hb18 (hms.apart 4 0 rfl rfl rfl _ (List.mem_singleton.2 rfl))
      replace hj23_l21 := hj23_l21.step hst he29 (hms.apart 3 0 rfl rfl rfl)
      replace hc25 := hc25.step hst
      replace hms := hms.ev he29
      replace hev := hev.then he29 (fun b hb => .inr (hfr.at 0 rfl b hb))
      replace hb27 := hb29
      refine x_end rfl ?_
      refine k_then ?_
      refine c_norm [(0, .pointer (some ⟨b_k_0, 0, none⟩)), (3, .pointer (some ⟨b4, 0, none⟩)), (4, .pointer (some ⟨b6, 0, none⟩)), (8, .pointer (some ⟨b18, 0, none⟩)), (10, .pointer (some ⟨b27, 0, none⟩)), (32, .slice a_j_1_Items (j_1_Items).length c_j_1_Items), (33, .int .i64 ((j_1_Items).length : Int)), (34, .int .i64 t34__s34_l21)] ⟨rfl, rfl, rfl, rfl, rfl, rfl, rfl, rfl, trivial⟩ (fun J => ?_)
      refine c_seq ?_
      refine c_drawn [b_k_0] [(0, false), (1, false), (2, false), (3, false), (5, false), (6, false), (7, false), (8, false), (4, false), (9, false), (10, false), (11, false), (12, false), (13, false), (14, false)] _ (by kernel_rfl) rfl ?_
      have hst := Stp.ext (ls := [[b27], [b4], [b6], blk a23_l21, [b18], [b_k_0], M]) (Ev.drew w29)
      replace hb_k_0 := (Ev.drew w29).box hb_k_0 (fun h => by cases h)
      replace hs_k_0_l := hs_k_0_l.step hst
      replace hb4 := (Ev.drew w29).box hb4 (fun h => by cases h)
      replace hs_j_1_Items := hs_j_1_Items.step hst
      replace hb6 := (Ev.drew w29).box hb6 (fun h => by cases h)
      replace hb18 := (Ev.drew w29).box hb18 (fun h => by cases h)
      replace hj23_l21 := hj23_l21.step hst (Ev.drew w29) (fun _ _ h => by cases h)
      replace hb27 := (Ev.drew w29).box hb27 (fun h => by cases h)
      replace hms := hms.ev (Ev.drew w29)
      replace hev := hev.ext (Ev.drew w29)
      refine x_pure 1 [(39, .pointer (some ⟨b_k_0, 0, none⟩))] _ _ _ (by kernel_rfl) ?_
      refine x_fieldAddr (xv := .pointer (some ⟨b18, 0, none⟩)) (.pointer (some ⟨b18, 0, none⟩)) rfl rfl rfl (reads_field tfld30_0 _ _) ?_
      refine x_load (xv := .pointer (some ⟨b18, 0, none⟩)) (.int .i64 (if (IntKind.i64.wrap (most_s5_l9 + x16.1)) < 12 then (IntKind.i64.wrap (most_s5_l9 + x16.1)) else 12)) rfl rfl rfl (reads_box tcell3 hb18 ((hms.apart 4 5 rfl rfl rfl) _ (List.mem_singleton.2 rfl)) 0 _ rfl) ?_
      refine x_binop (.int .i64 (IntKind.i64.wrap (1 * 2 ^ (min (Int.toNat ((if (IntKind.i64.wrap (most_s5_l9 + x16.1)) < 12 then (IntKind.i64.wrap (most_s5_l9 + x16.1)) else 12))) IntKind.i64.bits)))) (.int .i64 1) (.int .i64 (if (IntKind.i64.wrap (most_s5_l9 + x16.1)) < 12 then (IntKind.i64.wrap (most_s5_l9 + x16.1)) else 12)) rfl rfl rfl rfl (vb_shl (guard_l h)) ?_
      replace h := guard_r h
      refine x_fieldAddr (xv := .pointer (some ⟨b27, 0, none⟩)) (.pointer (some ⟨b27, 2, none⟩)) rfl rfl rfl (reads_field tfld39_2 _ _) ?_
      refine x_load (xv := .pointer (some ⟨b27, 2, none⟩)) (.int .i64 x25.2.2.1) rfl rfl rfl (reads_box tcell3 hb27 ((hms.apart 0 5 rfl rfl rfl) _ (List.mem_singleton.2 rfl)) 2 _ rfl) ?_
      refine x_fieldAddr (xv := .pointer (some ⟨b4, 0, none⟩)) (.pointer (some ⟨b4, 1, none⟩)) rfl rfl rfl (reads_field tfld27_1 _ _) ?_
      refine x_load (xv := .pointer (some ⟨b4, 1, none⟩)) (.int .i64 j_1_Weight) rfl rfl rfl (reads_box tcell3 hb4 ((hms.apart 1 5 rfl rfl rfl) _ (List.mem_singleton.2 rfl)) 1 _ rfl) ?_
      obtain ⟨x30, hx, h⟩ := bind_some h
      have hpk : MS (w29).drew ([[b_k_0]] ++ [[b27], [b4], [b6], blk a23_l21, [b18], M]) := hms.pick [some 5, some 0, some 1, some 2, some 3, some 4, some 6] _ rfl
      have hsb0 : ∀ x ∈ fl ([[b_k_0]] ++ [[b27], [b4], [b6], blk a23_l21, [b18], M]), x ∈ fl [[b27], [b4], [b6], blk a23_l21, [b18], [b_k_0], M] := pick_sub [some 5, some 0, some 1, some 2, some 3, some 4, some 6] _ rfl
      have hsb : ∀ x ∈ fl ([[b_k_0]] ++ [(fl [[b27], [b4], [b6], blk a23_l21, [b18], M])]), x ∈ fl [[b27], [b4], [b6], blk a23_l21, [b18], [b_k_0], M] := fun x hx => hsb0 x (fl_unfold x hx)
      have hcall := gen_Maker_Next_w b_k_0 a_k_0_l c_k_0_l k_0_l e2_l21_1 (IntKind.i64.wrap (1 * 2 ^ (min (Int.toNat ((if (IntKind.i64.wrap (most_s5_l9 + x16.1)) < 12 then (IntKind.i64.wrap (most_s5_l9 + x16.1)) else 12))) IntKind.i64.bits))) _ (w29).drew (fl [[b27], [b4], [b6], blk a23_l21, [b18], M]) (hpk.fold (P := [[b_k_0]])) (hs_k_0_l.sub hsb) hb_k_0 hx
      refine x_call 23 #[] #[] [.pointer (some ⟨b_k_0, 0, none⟩), .int .i64 (IntKind.i64.wrap (1 * 2 ^ (min (Int.toNat ((if (IntKind.i64.wrap (most_s5_l9 + x16.1)) < 12 then (IntKind.i64.wrap (most_s5_l9 + x16.1)) else 12))) IntKind.i64.bits)))] _ rfl rfl rfl rfl hcall ?_
      rintro v w31 ⟨rfl, he31, hp31_0⟩
      clear hcall hx
      refine ⟨.inr he31, ?_⟩
      have hpk2 : MS (w29).drew ([[b_k_0]] ++ [[b27], [b4], [b6], blk a23_l21, [b18], M]) := hms.pick [some 5, some 0, some 1, some 2, some 3, some 4, some 6] _ rfl
      have hsb2 : ∀ x ∈ fl ([[b_k_0]] ++ [[b27], [b4], [b6], blk a23_l21, [b18], M]), x ∈ fl [[b27], [b4], [b6], blk a23_l21, [b18], [b_k_0], M] := pick_sub [some 5, some 0, some 1, some 2, some 3, some 4, some 6] _ rfl
      have hst0 := Stp.call (LS := [[b27], [b4], [b6], blk a23_l21, [b18], [b_k_0], M]) (res := []) (par := [[b_k_0]]) (R := [[b27], [b4], [b6], blk a23_l21, [b18], M]) he31 (fun b hb => hsb2 b (fl_left' (P := [[b_k_0]]) b hb)) (FR.nil _) (NP.init _ _) (fun x hx => hsb2 x (fl_right' (P := [[b_k_0]]) x hx))
      have hsn : ∀ x ∈ fl [[b27], [b4], [b6], blk a23_l21, [b18], [b_k_0], M], x ∈ fl ([] ++ ([[b_k_0]] ++ [[b27], [b4], [b6], blk a23_l21, [b18], M])) := pick_sub [some 1, some 2, some 3, some 4, some 5, some 0, some 6] _ rfl
      have hst := hst0.res hsn
      replace hs_k_0_l := hs_k_0_l.step hst
      replace hb4 := he31.box hb4 ((MS.outs (P := [[b_k_0]]) hpk2 1 rfl) _ (List.mem_singleton.2 rfl))
      replace hs_j_1_Items := hs_j_1_Items.step hst
      replace hb6 := he31.box hb6 ((MS.outs (P := [[b_k_0]]) hpk2 2 rfl) _ (List.mem_singleton.2 rfl))
      replace hb18 := he31.box hb18 ((MS.outs (P := [[b_k_0]]) hpk2 4 rfl) _ (List.mem_singleton.2 rfl))
      replace hj23_l21 := hj23_l21.step hst he31 (MS.outs (P := [[b_k_0]]) hpk2 3 rfl)
      replace hb27 := he31.box hb27 ((MS.outs (P := [[b_k_0]]) hpk2 0 rfl) _ (List.mem_singleton.2 rfl))
      replace hms := hms.ev he31
      replace hev := hev.then he31 (fun b hb => .inl (by simpa using hb))
      replace hb_k_0 := hp31_0
      clear hpk hsb hsb0 hpk2 hsb2 hst0 hsn hst
      obtain ⟨x32, hx, h⟩ := bind_some h
      have hcall := r12_Next_w x30.1 x25.2.2.1 j_1_Weight _ w31 hx
      refine x_call 28 #[] #[] [.int .i64 x30.1, .int .i64 x25.2.2.1, .int .i64 j_1_Weight] _ rfl rfl rfl rfl hcall ?_
      rintro v w33 ⟨rfl, he33⟩
      clear hcall hx
      refine ⟨.inr (he33.nil), ?_⟩
      have hst := Stp.ext (ls := [[b27], [b4], [b6], blk a23_l21, [b18], [b_k_0], M]) he33
      replace hb_k_0 := he33.box hb_k_0 (fun h => by cases h)
      replace hs_k_0_l := hs_k_0_l.step hst
      replace hb4 := he33.box hb4 (fun h => by cases h)
      replace hs_j_1_Items := hs_j_1_Items.step hst
      replace hb6 := he33.box hb6 (fun h => by cases h)
      replace hb18 := he33.box hb18 (fun h => by cases h)
      replace hj23_l21 := hj23_l21.step hst he33 (fun _ _ h => by cases h)
      replace hb27 := he33.box hb27 (fun h => by cases h)
      replace hms := hms.ev he33
      replace hev := hev.ext he33
      refine x_pure 5 [(38, .tuple #[.int .i64 x32.1, .int .i64 x32.2]), (49, .int .i64 x32.1), (50, .int .i64 x32.2), (11, .int .i64 x32.1), (12, .int .i64 x32.2)] _ _ _ (by kernel_rfl) ?_
      refine x_end rfl ?_
      refine k_then ?_
      refine c_norm [(0, .pointer (some ⟨b_k_0, 0, none⟩)), (3, .pointer (some ⟨b4, 0, none⟩)), (4, .pointer (some ⟨b6, 0, none⟩)), (8, .pointer (some ⟨b18, 0, none⟩)), (10, .pointer (some ⟨b27, 0, none⟩)), (11, .int .i64 x32.1), (12, .int .i64 x32.2), (32, .slice a_j_1_Items (j_1_Items).length c_j_1_Items), (33, .int .i64 ((j_1_Items).length : Int)), (34, .int .i64 t34__s34_l21)] ⟨rfl, rfl, rfl, rfl, rfl, rfl, rfl, rfl, rfl, rfl, trivial⟩ (fun J => ?_)
      refine c_join (σ := Int) (fun s => match s with | c_s11_j34 => [(0, .pointer (some ⟨b_k_0, 0, none⟩)), (3, .pointer (some ⟨b4, 0, none⟩)), (4, .pointer (some ⟨b6, 0, none⟩)), (8, .pointer (some ⟨b18, 0, none⟩)), (11, .int .i64 c_s11_j34), (32, .slice a_j_1_Items (j_1_Items).length c_j_1_Items), (33, .int .i64 ((j_1_Items).length : Int)), (34, .int .i64 t34__s34_l21)]) (fun s w' => match s with | c_s11_j34 => law14_plan_J34 d23_l21 t34__s34_l21 x30 c_s11_j34 = some t21 ∧ Ev [b_k_0] w w' ∧ MS w' [[b4], [b6], blk a23_l21, [b18], [b_k_0], M] ∧ FR w.heap.size [[b4], [b6], blk a23_l21, [b18]] ∧ SlR (eInt .i64) w' (fl [[b4], [b6], blk a23_l21, [b18], [b_k_0], M]) a_k_0_l c_k_0_l k_0_l ∧ w'.heap[b_k_0]? = some (.cells #[.slice a_k_0_l (k_0_l).length c_k_0_l, .int .i64 x30.2] 67 (0, 0)) ∧ SlR (eProd (eInt .i64) (eProd (eInt .i64) (eProd (eInt .i64) (eInt .i64)))) w' (fl [[b4], [b6], blk a23_l21, [b18], [b_k_0], M]) a_j_1_Items c_j_1_Items j_1_Items ∧ w'.heap[b4]? = some (.cells #[.slice a_j_1_Items (j_1_Items).length c_j_1_Items, .int .i64 j_1_Weight] 27 (0, 0)) ∧ w'.heap[b6]? = some (.cells #[.int .i64 0, .slice none 0 0] 30 (0, 0)) ∧ OwnS (eInt .i64) 3 w' (fl [[b4], [b6], blk a23_l21, [b18], [b_k_0], M]) a23_l21 c23_l21 d23_l21 ∧ w'.heap[b18]? = some (.cells #[.int .i64 (if (IntKind.i64.wrap (most_s5_l9 + x16.1)) < 12 then (IntKind.i64.wrap (most_s5_l9 + x16.1)) else 12), .slice a23_l21 (d23_l21).length c23_l21] 30 (0, 0))) ?_ ?_
      · refine c_seq ?_
        refine c_plain ?_
        refine x_pure 3 [(51, .int .i64 x32.2), (52, .bool (x32.2 != 0)), (53, .bool (x32.2 != 0))] _ _ _ (by kernel_rfl) ?_
        refine x_split 53 (x32.2 != 0) rfl (fun hb => ?_) (fun hb => ?_)
        · replace h := ite_t hb h
          refine x_pure 6 [(54, undef), (55, undef), (56, undef), (57, undef), (58, undef), (59, .bool true)] _ _ _ (by kernel_rfl) ?_
          refine x_end rfl ?_
          refine k_then ?_
          refine c_norm [(0, .pointer (some ⟨b_k_0, 0, none⟩)), (3, .pointer (some ⟨b4, 0, none⟩)), (4, .pointer (some ⟨b6, 0, none⟩)), (8, .pointer (some ⟨b18, 0, none⟩)), (10, .pointer (some ⟨b27, 0, none⟩)), (11, .int .i64 x32.1), (32, .slice a_j_1_Items (j_1_Items).length c_j_1_Items), (33, .int .i64 ((j_1_Items).length : Int)), (34, .int .i64 t34__s34_l21), (59, .bool true)] ⟨rfl, rfl, rfl, rfl, rfl, rfl, rfl, rfl, rfl, rfl, trivial⟩ (fun J => ?_)
          refine c_true rfl ?_
          refine c_plain ?_
          refine x_fieldAddr (xv := .pointer (some ⟨b27, 0, none⟩)) (.pointer (some ⟨b27, 2, none⟩)) rfl rfl rfl (reads_field tfld39_2 _ _) ?_
          refine x_load (xv := .pointer (some ⟨b27, 2, none⟩)) (.int .i64 x25.2.2.1) rfl rfl rfl (reads_box tcell3 hb27 (fun h => by cases h) 2 _ rfl) ?_
          refine x_binop (.int .i64 (IntKind.i64.wrap (1 * 2 ^ (min (Int.toNat (x25.2.2.1)) IntKind.i64.bits)))) (.int .i64 1) (.int .i64 x25.2.2.1) rfl rfl rfl rfl (vb_shl (guard_l h)) ?_
          replace h := guard_r h
          refine x_pure 2 [(63, .int .i64 (IntKind.i64.wrap ((IntKind.i64.wrap (1 * 2 ^ (min (Int.toNat (x25.2.2.1)) IntKind.i64.bits))) - 1))), (11, .int .i64 (IntKind.i64.wrap ((IntKind.i64.wrap (1 * 2 ^ (min (Int.toNat (x25.2.2.1)) IntKind.i64.bits))) - 1)))] _ _ _ (by kernel_rfl) ?_
          refine x_end rfl ?_
          have hpk : MS w33 [[b4], [b6], blk a23_l21, [b18], [b_k_0], M] := hms.pick [some 1, some 2, some 3, some 4, some 5, some 6] _ rfl
          have hsu : ∀ x ∈ fl [[b4], [b6], blk a23_l21, [b18], [b_k_0], M], x ∈ fl [[b27], [b4], [b6], blk a23_l21, [b18], [b_k_0], M] := pick_sub [some 1, some 2, some 3, some 4, some 5, some 6] _ rfl
          replace hs_k_0_l := hs_k_0_l.sub hsu
          replace hs_j_1_Items := hs_j_1_Items.sub hsu
          replace hj23_l21 := hj23_l21.sub hsu
          replace hms := hpk
          replace hfr : FR w.heap.size [[b4], [b6], blk a23_l21, [b18]] := hfr.pick [some 1, some 2, some 3, some 4] _ rfl
          clear hpk hsu
          exact k_then ⟨IntKind.i64.wrap ((IntKind.i64.wrap (1 * 2 ^ (min (Int.toNat (x25.2.2.1)) IntKind.i64.bits))) - 1), ⟨rfl, rfl, rfl, rfl, rfl, rfl, rfl, rfl, trivial⟩, h, hev, hms, hfr, hs_k_0_l, hb_k_0, hs_j_1_Items, hb4, hb6, hj23_l21, hb18⟩
        · replace h := ite_f hb h
          refine x_pure 1 [(54, .int .i64 x32.1)] _ _ _ (by kernel_rfl) ?_
          refine x_fieldAddr (xv := .pointer (some ⟨b18, 0, none⟩)) (.pointer (some ⟨b18, 0, none⟩)) rfl rfl rfl (reads_field tfld30_0 _ _) ?_
          refine x_load (xv := .pointer (some ⟨b18, 0, none⟩)) (.int .i64 (if (IntKind.i64.wrap (most_s5_l9 + x16.1)) < 12 then (IntKind.i64.wrap (most_s5_l9 + x16.1)) else 12)) rfl rfl rfl (reads_box tcell3 hb18 (fun h => by cases h) 0 _ rfl) ?_
          refine x_binop (.int .i64 (IntKind.i64.wrap (1 * 2 ^ (min (Int.toNat ((if (IntKind.i64.wrap (most_s5_l9 + x16.1)) < 12 then (IntKind.i64.wrap (most_s5_l9 + x16.1)) else 12))) IntKind.i64.bits)))) (.int .i64 1) (.int .i64 (if (IntKind.i64.wrap (most_s5_l9 + x16.1)) < 12 then (IntKind.i64.wrap (most_s5_l9 + x16.1)) else 12)) rfl rfl rfl rfl (vb_shl (guard_l h)) ?_
          replace h := guard_r h
          refine x_pure 2 [(58, .bool (decide (x32.1 ≥ (IntKind.i64.wrap (1 * 2 ^ (min (Int.toNat ((if (IntKind.i64.wrap (most_s5_l9 + x16.1)) < 12 then (IntKind.i64.wrap (most_s5_l9 + x16.1)) else 12))) IntKind.i64.bits)))))), (59, .bool (decide (x32.1 ≥ (IntKind.i64.wrap (1 * 2 ^ (min (Int.toNat ((if (IntKind.i64.wrap (most_s5_l9 + x16.1)) < 12 then (IntKind.i64.wrap (most_s5_l9 + x16.1)) else 12))) IntKind.i64.bits))))))] _ _ _ (by kernel_rfl) ?_
          refine x_end rfl ?_
          refine k_then ?_
          refine c_norm [(0, .pointer (some ⟨b_k_0, 0, none⟩)), (3, .pointer (some ⟨b4, 0, none⟩)), (4, .pointer (some ⟨b6, 0, none⟩)), (8, .pointer (some ⟨b18, 0, none⟩)), (10, .pointer (some ⟨b27, 0, none⟩)), (11, .int .i64 x32.1), (32, .slice a_j_1_Items (j_1_Items).length c_j_1_Items), (33, .int .i64 ((j_1_Items).length : Int)), (34, .int .i64 t34__s34_l21), (59, .bool (decide (x32.1 ≥ (IntKind.i64.wrap (1 * 2 ^ (min (Int.toNat ((if (IntKind.i64.wrap (most_s5_l9 + x16.1)) < 12 then (IntKind.i64.wrap (most_s5_l9 + x16.1)) else 12))) IntKind.i64.bits))))))] ⟨rfl, rfl, rfl, rfl, rfl, rfl, rfl, rfl, rfl, rfl, trivial⟩ (fun J => ?_)
          refine c_cond (decide (x32.1 ≥ (IntKind.i64.wrap (1 * 2 ^ (min (Int.toNat ((if (IntKind.i64.wrap (most_s5_l9 + x16.1)) < 12 then (IntKind.i64.wrap (most_s5_l9 + x16.1)) else 12))) IntKind.i64.bits))))) rfl (fun hb => ?_) (fun hb => ?_)
          · replace h := ite_t hb h
            refine c_plain ?_
            refine x_fieldAddr (xv := .pointer (some ⟨b27, 0, none⟩)) (.pointer (some ⟨b27, 2, none⟩)) rfl rfl rfl (reads_field tfld39_2 _ _) ?_
            refine x_load (xv := .pointer (some ⟨b27, 2, none⟩)) (.int .i64 x25.2.2.1) rfl rfl rfl (reads_box tcell3 hb27 (fun h => by cases h) 2 _ rfl) ?_
            refine x_binop (.int .i64 (IntKind.i64.wrap (1 * 2 ^ (min (Int.toNat (x25.2.2.1)) IntKind.i64.bits)))) (.int .i64 1) (.int .i64 x25.2.2.1) rfl rfl rfl rfl (vb_shl (guard_l h)) ?_
            replace h := guard_r h
            refine x_pure 2 [(63, .int .i64 (IntKind.i64.wrap ((IntKind.i64.wrap (1 * 2 ^ (min (Int.toNat (x25.2.2.1)) IntKind.i64.bits))) - 1))), (11, .int .i64 (IntKind.i64.wrap ((IntKind.i64.wrap (1 * 2 ^ (min (Int.toNat (x25.2.2.1)) IntKind.i64.bits))) - 1)))] _ _ _ (by kernel_rfl) ?_
            refine x_end rfl ?_
            have hpk : MS w33 [[b4], [b6], blk a23_l21, [b18], [b_k_0], M] := hms.pick [some 1, some 2, some 3, some 4, some 5, some 6] _ rfl
            have hsu : ∀ x ∈ fl [[b4], [b6], blk a23_l21, [b18], [b_k_0], M], x ∈ fl [[b27], [b4], [b6], blk a23_l21, [b18], [b_k_0], M] := pick_sub [some 1, some 2, some 3, some 4, some 5, some 6] _ rfl
            replace hs_k_0_l := hs_k_0_l.sub hsu
            replace hs_j_1_Items := hs_j_1_Items.sub hsu
            replace hj23_l21 := hj23_l21.sub hsu
            replace hms := hpk
            replace hfr : FR w.heap.size [[b4], [b6], blk a23_l21, [b18]] := hfr.pick [some 1, some 2, some 3, some 4] _ rfl
            clear hpk hsu
            exact k_then ⟨IntKind.i64.wrap ((IntKind.i64.wrap (1 * 2 ^ (min (Int.toNat (x25.2.2.1)) IntKind.i64.bits))) - 1), ⟨rfl, rfl, rfl, rfl, rfl, rfl, rfl, rfl, trivial⟩, h, hev, hms, hfr, hs_k_0_l, hb_k_0, hs_j_1_Items, hb4, hb6, hj23_l21, hb18⟩
          · replace h := ite_f hb h
            refine c_skip ?_
            have hpk : MS w33 [[b4], [b6], blk a23_l21, [b18], [b_k_0], M] := hms.pick [some 1, some 2, some 3, some 4, some 5, some 6] _ rfl
            have hsu : ∀ x ∈ fl [[b4], [b6], blk a23_l21, [b18], [b_k_0], M], x ∈ fl [[b27], [b4], [b6], blk a23_l21, [b18], [b_k_0], M] := pick_sub [some 1, some 2, some 3, some 4, some 5, some 6] _ rfl
            replace hs_k_0_l := hs_k_0_l.sub hsu
            replace hs_j_1_Items := hs_j_1_Items.sub hsu
            replace hj23_l21 := hj23_l21.sub hsu
            replace hms := hpk
            replace hfr : FR w.heap.size [[b4], [b6], blk a23_l21, [b18]] := hfr.pick [some 1, some 2, some 3, some 4] _ rfl
            clear hpk hsu
            exact k_then ⟨x32.1, ⟨rfl, rfl, rfl, rfl, rfl, rfl, rfl, rfl, trivial⟩, h, hev, hms, hfr, hs_k_0_l, hb_k_0, hs_j_1_Items, hb4, hb6, hj23_l21, hb18⟩
      · rintro c_s11_j34 J wj34 ⟨h, hev, hms, hfr, hs_k_0_l, hb_k_0, hs_j_1_Items, hb4, hb6, hj23_l21, hb18⟩
        refine c_plain ?_
        refine x_fieldAddr (xv := .pointer (some ⟨b18, 0, none⟩)) (.pointer (some ⟨b18, 1, none⟩)) rfl rfl rfl (reads_field tfld30_1 _ _) ?_
        refine x_load (xv := .pointer (some ⟨b18, 1, none⟩)) (.slice a23_l21 (d23_l21).length c23_l21) rfl rfl rfl (reads_box tcell22 hb18 (fun h => by cases h) 1 _ rfl) ?_
        refine x_pure 1 [(66, .int .i64 c_s11_j34)] _ _ _ (by kernel_rfl) ?_
        refine x_buildSlice (vs := [(0, .int .i64 c_s11_j34)]) #[.int .i64 c_s11_j34] 3 rfl rfl rfl (by kernel_rfl) (fun b35 w35 hq35 hb35 he35 _ => ?_)
        refine ⟨.inl rfl, ?_⟩
        have hms0 := hms
        have hst := Stp.ext (ls := [[b4], [b6], blk a23_l21, [b18], [b_k_0], M]) he35
        replace hb_k_0 := he35.box hb_k_0 (fun h => by cases h)
        replace hs_k_0_l := hs_k_0_l.step hst
        replace hb4 := he35.box hb4 (fun h => by cases h)
        replace hs_j_1_Items := hs_j_1_Items.step hst
        replace hb6 := he35.box hb6 (fun h => by cases h)
        replace hb18 := he35.box hb18 (fun h => by cases h)
        replace hj23_l21 := hj23_l21.step hst he35 (fun _ _ h => by cases h)
        replace hms := hms.ev he35
        replace hev := hev.ext he35
        have hs35 : SlR (eInt .i64) w35 (fl [[b4], [b6], blk a23_l21, [b18], [b_k_0], M]) (some ⟨b35, 0, none⟩) 1 ([c_s11_j34]) := ro_of_box hms0 hq35 hb35 rfl rfl (cells_at (cs := [.int .i64 c_s11_j34]) (CellsOf.cons (c := [.int .i64 c_s11_j34]) rfl CellsOf.nil))
        clear hb35 hms0
        have hg := guard_l h
        replace h := guard_r h
        obtain ⟨a37, c37, w37, hr37, he37, hn37, hw37⟩ := own_append tel22 22 hj23_l21 (mem_flat 2 rfl) hs35 hg
        refine x_builtin (vs := [.slice a23_l21 (d23_l21).length c23_l21, .slice (some ⟨b35, 0, none⟩) ([c_s11_j34]).length 1]) _ w37 rfl rfl rfl rfl (run_value _ _ _ _ hr37) ?_
        refine ⟨.inl rfl, ?_⟩
        have hst : Stp (fl [[b4], [b6], blk a23_l21, [b18], [b_k_0], M]) w35 (fl [[b4], [b6], blk a37, [b18], [b_k_0], M]) w37 := Stp.upd 2 he37 rfl (fun b hb => (hn37 b hb).1)
        replace hb_k_0 := he37.box hb_k_0 (hms.apart 4 2 rfl rfl rfl _ (List.mem_singleton.2 rfl))
        replace hs_k_0_l := hs_k_0_l.step hst
        replace hb4 := he37.box hb4 (hms.apart 0 2 rfl rfl rfl _ (List.mem_singleton.2 rfl))
        replace hs_j_1_Items := hs_j_1_Items.step hst
        replace hb6 := he37.box hb6 (hms.apart 1 2 rfl rfl rfl _ (List.mem_singleton.2 rfl))
        replace hb18 := he37.box hb18 (hms.apart 3 2 rfl rfl rfl _ (List.mem_singleton.2 rfl))
        replace hs35 := hs35.step hst
        replace hms : MS w37 [[b4], [b6], blk a37, [b18], [b_k_0], M] := hms.upd 2 he37 rfl hn37
        have hfr2 : FR w.heap.size [[b4], [b6], blk a37, [b18]] := hfr.upd 2 rfl hev.size (fun b hb => (hn37 b hb).1)
        replace hev := hev.then he37 (fun b hb => .inr (hfr.at 2 rfl b hb))
        replace hfr := hfr2
        clear hfr2
        replace hj23_l21 := hw37 (fl [[b4], [b6], blk a37, [b18], [b_k_0], M]) hst.new
        clear hw37
        refine x_fieldAddr (xv := .pointer (some ⟨b18, 0, none⟩)) (.pointer (some ⟨b18, 1, none⟩)) rfl rfl rfl (reads_field tfld30_1 _ _) ?_
        obtain ⟨w38, hr38, hb38, he38⟩ := store_box 1 (.slice a37 ((d23_l21 ++ [c_s11_j34])).length c37) #[.int .i64 (if (IntKind.i64.wrap (most_s5_l9 + x16.1)) < 12 then (IntKind.i64.wrap (most_s5_l9 + x16.1)) else 12), .slice a37 ((d23_l21 ++ [c_s11_j34])).length c37] tcell22 hb18 rfl rfl rfl
        refine x_store w38 (xv := .pointer (some ⟨b18, 1, none⟩)) (yv := .slice a37 ((d23_l21 ++ [c_s11_j34])).length c37) rfl rfl rfl rfl hr38 ?_
        refine ⟨.inl rfl, ?_⟩
        have hst := Stp.ev' (ls := [[b4], [b6], blk a37, [b18], [b_k_0], M]) he38 (mem_flat 3 rfl)
        replace hb_k_0 := he38.box hb_k_0 (hms.apart 4 3 rfl rfl rfl _ (List.mem_singleton.2 rfl))
        replace hs_k_0_l := hs_k_0_l.step hst
        replace hb4 := he38.box hb4 (hms.apart 0 3 rfl rfl rfl _ (List.mem_singleton.2 rfl))
        replace hs_j_1_Items := hs_j_1_Items.step hst
        replace hb6 := he38.box hb6 (hms.apart 1 3 rfl rfl rfl _ (List.mem_singleton.2 rfl))
        replace hj23_l21 := hj23_l21.step hst he38 (hms.apart 2 3 rfl rfl rfl)
        replace hs35 := hs35.step hst
        replace hms := hms.ev he38
        replace hev := hev.then he38 (fun b hb => .inr (hfr.at 3 rfl b hb))
        replace hb18 := hb38
        refine x_end rfl ?_
        refine k_block ?_
        refine k_then ?_
        refine c_norm [(0, .pointer (some ⟨b_k_0, 0, none⟩)), (3, .pointer (some ⟨b4, 0, none⟩)), (4, .pointer (some ⟨b6, 0, none⟩)), (8, .pointer (some ⟨b18, 0, none⟩)), (32, .slice a_j_1_Items (j_1_Items).length c_j_1_Items), (33, .int .i64 ((j_1_Items).length : Int)), (34, .int .i64 t34__s34_l21)] ⟨rfl, rfl, rfl, rfl, rfl, rfl, rfl, trivial⟩ (fun J => ?_)
        refine c_plain ?_
        refine x_pure 2 [(70, .int .i64 (IntKind.i64.wrap (t34__s34_l21 + 1))), (34, .int .i64 (IntKind.i64.wrap (t34__s34_l21 + 1)))] _ _ _ (by kernel_rfl) ?_
        refine x_end rfl ?_
        have hx := some_inj h
        subst hx
        exact k_then ⟨(m21, x30.2, (d23_l21 ++ [c_s11_j34]), IntKind.i64.wrap (t34__s34_l21 + 1), a37, c37), ⟨rfl, rfl, rfl, rfl, rfl, rfl, rfl, trivial⟩, ⟨hn21, hev, hms, hfr, hs_k_0_l, hb_k_0, hs_j_1_Items, hb4, hb6, hj23_l21, hb18⟩, Nat.lt_succ_self _⟩
    · replace h := ite_f hb h
      refine c_exit ?_
      refine k_then_exit ?_
      have hx := some_inj h
      subst hx
      have hy := some_inj hn21
      subst hy
      replace h := h21
      refine k_then_exit ?_
      refine k_block_in ?_
      refine k_then ?_
      refine c_norm [(4, .pointer (some ⟨b6, 0, none⟩)), (8, .pointer (some ⟨b18, 0, none⟩))] ⟨rfl, rfl, trivial⟩ (fun J => ?_)
      refine c_seq ?_
      refine c_plain ?_
      refine x_load (xv := .pointer (some ⟨b18, 0, none⟩)) (.agg #[.int .i64 (if (IntKind.i64.wrap (most_s5_l9 + x16.1)) < 12 then (IntKind.i64.wrap (most_s5_l9 + x16.1)) else 12), .slice a23_l21 (d23_l21).length c23_l21]) rfl rfl rfl (reads_boxagg 0 [.int .i64 (if (IntKind.i64.wrap (most_s5_l9 + x16.1)) < 12 then (IntKind.i64.wrap (most_s5_l9 + x16.1)) else 12), .slice a23_l21 (d23_l21).length c23_l21] tagg30 hb18 (fun h => by cases h) rfl) ?_
      obtain ⟨w39, hr39, hb39, he39⟩ := store_boxagg 0 [.int .i64 (if (IntKind.i64.wrap (most_s5_l9 + x16.1)) < 12 then (IntKind.i64.wrap (most_s5_l9 + x16.1)) else 12), .slice a23_l21 (d23_l21).length c23_l21] #[.int .i64 (if (IntKind.i64.wrap (most_s5_l9 + x16.1)) < 12 then (IntKind.i64.wrap (most_s5_l9 + x16.1)) else 12), .slice a23_l21 (d23_l21).length c23_l21] tagg30 hb6 rfl rfl rfl
      refine x_store w39 (xv := .pointer (some ⟨b6, 0, none⟩)) (yv := .agg #[.int .i64 (if (IntKind.i64.wrap (most_s5_l9 + x16.1)) < 12 then (IntKind.i64.wrap (most_s5_l9 + x16.1)) else 12), .slice a23_l21 (d23_l21).length c23_l21]) rfl rfl rfl rfl hr39 ?_
      refine ⟨.inl rfl, ?_⟩
      have hst := Stp.ev' (ls := [[b4], [b6], blk a23_l21, [b18], [b_k_0], M]) he39 (mem_flat 1 rfl)
      replace hb_k_0 := he39.box hb_k_0 (hms.apart 4 1 rfl rfl rfl _ (List.mem_singleton.2 rfl))
      replace hs_k_0_l := hs_k_0_l.step hst
      replace hb4 := he39.box hb4 (hms.apart 0 1 rfl rfl rfl _ (List.mem_singleton.2 rfl))
      replace hs_j_1_Items := hs_j_1_Items.step hst
      replace hb18 := he39.box hb18 (hms.apart 3 1 rfl rfl rfl _ (List.mem_singleton.2 rfl))
      replace hj23_l21 := hj23_l21.step hst he39 (hms.apart 2 1 rfl rfl rfl)
      replace hms := hms.ev he39
      replace hev := hev.then he39 (fun b hb => .inr (hfr.at 1 rfl b hb))
      replace hb6 := hb39
      refine x_end rfl ?_
      refine k_then ?_
      refine c_norm [(4, .pointer (some ⟨b6, 0, none⟩))] ⟨rfl, trivial⟩ (fun J => ?_)
      refine c_ret ?_
      refine r_ret (r_vals [.agg #[.int .i64 (if (IntKind.i64.wrap (most_s5_l9 + x16.1)) < 12 then (IntKind.i64.wrap (most_s5_l9 + x16.1)) else 12), .slice a23_l21 (d23_l21).length c23_l21]] ⟨⟨_, rfl, loadVar_of_reads (reads_boxagg (Mo := []) 0 [.int .i64 (if (IntKind.i64.wrap (most_s5_l9 + x16.1)) < 12 then (IntKind.i64.wrap (most_s5_l9 + x16.1)) else 12), .slice a23_l21 (d23_l21).length c23_l21] tagg30 hb6 (fun h => by cases h) rfl)⟩, trivial⟩ ?_)
      have hx := some_inj h
      subst hx
      have hmr : MS w39 [blk a23_l21, [b_k_0], M] := hms.pick [some 2, some 4, some 5] _ rfl
      have hsu : ∀ x ∈ fl [blk a23_l21, [b_k_0], M], x ∈ fl [[b4], [b6], blk a23_l21, [b18], [b_k_0], M] := pick_sub [some 2, some 4, some 5] _ rfl
      have hfe : FR w.heap.size [blk a23_l21] := hfr.pick [some 2] _ rfl
      exact ⟨a23_l21, c23_l21, rfl, hev, hb_k_0, hmr, hfe, hj23_l21.sub hsu⟩
def law14_sane : Option Bool :=
((rollin_Contents ([(0, 1, 0, 80), (0, 3, 0, 80), (0, 0, 0, 80), (0, 2, 0, 80)] : List (Int × Int × Int × Int)) 12 2 ([1, 2, 0, 1]) 0).bind fun x11 =>
((rollin_Run ([(0, 1, 0, 80), (0, 3, 0, 80), (0, 0, 0, 80), (0, 2, 0, 80)] : List (Int × Int × Int × Int)) 12 2 ([1, 2, 0, 1])).bind fun x15 =>
((rollin_Loads ([(0, 1, 0, 80), (0, 3, 0, 80), (0, 0, 0, 80), (0, 2, 0, 80)] : List (Int × Int × Int × Int)) 12 2 ([1, 2, 0, 1])).bind fun x21 =>
(if (x11.2.2 == 0) = true then
((gen_Lists x11.1 ([[0, 3], [1]] : List (List Int))).bind fun x30 =>
(if x30 = true then
((gen_Lists x11.2.1 ([[2]] : List (List Int))).bind fun x36 =>
(if x36 = true then
(if (x15.2 == 0) = true then
((gen_Lists x15.1.1 ([[2, 0, 3, 1]] : List (List Int))).bind fun x42 =>
(if x42 = true then
(if (x15.1.2 == 7) = true then
(if (x21.2 == 0) = true then
((gen_Ints x21.1 ([160, 80, 320])).bind fun x46 =>
some x46)
else
some false)
else
some false)
else
some false))
else
some false)
else
some false))
else
some false))
else
some false))))

theorem law14_sane_w (r : Bool) (w : World) (h : law14_sane = some r) : CallVC Try.prog 15 [] w fun v w' => v = .bool r ∧ Ev [] w w' := by
  refine calls_vc hmx Try.func15 (by kernel_rfl) rfl (rs := [.tmp 0]) rfl (by kernel_rfl) (args := []) rfl ?_
  have hev : Ev [] w w := Ev.refl _ _
  have hms : MS w [[]] := ⟨List.pairwise_singleton _ _, fun l hl b hb => by simp only [List.mem_singleton] at hl; subst hl; cases hb⟩
  have hfr : FR w.heap.size [] := FR.nil _
  refine c_seq ?_
  refine c_plain ?_
  refine x_pure 1 [(0, .bool false)] _ _ _ (by kernel_rfl) ?_
  refine x_end rfl ?_
  refine k_then ?_
  refine c_norm [] trivial (fun J => ?_)
  refine c_seq ?_
  refine c_plain ?_
  refine x_build (vs := [(1, .int .i64 1), (3, .int .i64 80)]) (.agg #[.int .i64 0, .int .i64 1, .int .i64 0, .int .i64 80]) rfl rfl rfl (fun _ _ => by kernel_rfl) ?_
  refine x_build (vs := [(1, .int .i64 3), (3, .int .i64 80)]) (.agg #[.int .i64 0, .int .i64 3, .int .i64 0, .int .i64 80]) rfl rfl rfl (fun _ _ => by kernel_rfl) ?_
  refine x_build (vs := [(1, .int .i64 0), (3, .int .i64 80)]) (.agg #[.int .i64 0, .int .i64 0, .int .i64 0, .int .i64 80]) rfl rfl rfl (fun _ _ => by kernel_rfl) ?_
  refine x_build (vs := [(1, .int .i64 2), (3, .int .i64 80)]) (.agg #[.int .i64 0, .int .i64 2, .int .i64 0, .int .i64 80]) rfl rfl rfl (fun _ _ => by kernel_rfl) ?_
  refine x_buildSlice (vs := [(0, .agg #[.int .i64 0, .int .i64 1, .int .i64 0, .int .i64 80]), (1, .agg #[.int .i64 0, .int .i64 3, .int .i64 0, .int .i64 80]), (2, .agg #[.int .i64 0, .int .i64 0, .int .i64 0, .int .i64 80]), (3, .agg #[.int .i64 0, .int .i64 2, .int .i64 0, .int .i64 80])]) #[.int .i64 0, .int .i64 1, .int .i64 0, .int .i64 80, .int .i64 0, .int .i64 3, .int .i64 0, .int .i64 80, .int .i64 0, .int .i64 0, .int .i64 0, .int .i64 80, .int .i64 0, .int .i64 2, .int .i64 0, .int .i64 80] 39 rfl rfl rfl (by kernel_rfl) (fun b1 w1 hq1 hb1 he1 _ => ?_)
  refine ⟨.inl rfl, ?_⟩
  have hms0 := hms
  replace hms := hms.ev he1
  replace hev := hev.ext he1
  have hs1 : SlR (eProd (eInt .i64) (eProd (eInt .i64) (eProd (eInt .i64) (eInt .i64)))) w1 (fl [[]]) (some ⟨b1, 0, none⟩) 4 ([(0, 1, 0, 80), (0, 3, 0, 80), (0, 0, 0, 80), (0, 2, 0, 80)] : List (Int × Int × Int × Int)) := ro_of_box hms0 hq1 hb1 rfl rfl (cells_at (cs := [.int .i64 0, .int .i64 1, .int .i64 0, .int .i64 80, .int .i64 0, .int .i64 3, .int .i64 0, .int .i64 80, .int .i64 0, .int .i64 0, .int .i64 0, .int .i64 80, .int .i64 0, .int .i64 2, .int .i64 0, .int .i64 80]) (CellsOf.cons (c := [.int .i64 0, .int .i64 1, .int .i64 0, .int .i64 80]) ⟨[.int .i64 0], [.int .i64 1, .int .i64 0, .int .i64 80], rfl, rfl, ⟨[.int .i64 1], [.int .i64 0, .int .i64 80], rfl, rfl, ⟨[.int .i64 0], [.int .i64 80], rfl, rfl, rfl⟩⟩⟩ (CellsOf.cons (c := [.int .i64 0, .int .i64 3, .int .i64 0, .int .i64 80]) ⟨[.int .i64 0], [.int .i64 3, .int .i64 0, .int .i64 80], rfl, rfl, ⟨[.int .i64 3], [.int .i64 0, .int .i64 80], rfl, rfl, ⟨[.int .i64 0], [.int .i64 80], rfl, rfl, rfl⟩⟩⟩ (CellsOf.cons (c := [.int .i64 0, .int .i64 0, .int .i64 0, .int .i64 80]) ⟨[.int .i64 0], [.int .i64 0, .int .i64 0, .int .i64 80], rfl, rfl, ⟨[.int .i64 0], [.int .i64 0, .int .i64 80], rfl, rfl, ⟨[.int .i64 0], [.int .i64 80], rfl, rfl, rfl⟩⟩⟩ (CellsOf.cons (c := [.int .i64 0, .int .i64 2, .int .i64 0, .int .i64 80]) ⟨[.int .i64 0], [.int .i64 2, .int .i64 0, .int .i64 80], rfl, rfl, ⟨[.int .i64 2], [.int .i64 0, .int .i64 80], rfl, rfl, ⟨[.int .i64 0], [.int .i64 80], rfl, rfl, rfl⟩⟩⟩ CellsOf.nil)))))
  clear hb1 hms0
  refine x_build (vs := [(0, .slice (some ⟨b1, 0, none⟩) (([(0, 1, 0, 80), (0, 3, 0, 80), (0, 0, 0, 80), (0, 2, 0, 80)] : List (Int × Int × Int × Int))).length 4), (1, .int .i64 12)]) (.agg #[.slice (some ⟨b1, 0, none⟩) (([(0, 1, 0, 80), (0, 3, 0, 80), (0, 0, 0, 80), (0, 2, 0, 80)] : List (Int × Int × Int × Int))).length 4, .int .i64 12]) rfl rfl rfl (fun _ _ => by kernel_rfl) ?_
  refine x_alloc (z := .agg #[.slice none 0 0, .int .i64 0]) rfl rfl (by kernel_rfl) (fun b3 w3 hq3 hb3 he3 _ => ?_)
  replace hb3 : w3.heap[b3]? = some (.cells #[.slice none 0 0, .int .i64 0] 27 (0, 0)) := hb3
  refine ⟨.inl rfl, ?_⟩
  have hst := Stp.box (ls := [[]]) he3 hq3
  replace hs1 := hs1.step hst
  replace hms := hms.box he3 hq3 hb3
  replace hfr := hfr.box hev.size hq3
  replace hev := hev.ext he3
  obtain ⟨w5, hr5, hb5, he5⟩ := store_boxagg 0 [.slice (some ⟨b1, 0, none⟩) (([(0, 1, 0, 80), (0, 3, 0, 80), (0, 0, 0, 80), (0, 2, 0, 80)] : List (Int × Int × Int × Int))).length 4, .int .i64 12] #[.slice (some ⟨b1, 0, none⟩) (([(0, 1, 0, 80), (0, 3, 0, 80), (0, 0, 0, 80), (0, 2, 0, 80)] : List (Int × Int × Int × Int))).length 4, .int .i64 12] tagg27 hb3 rfl rfl rfl
  refine x_store w5 (xv := .pointer (some ⟨b3, 0, none⟩)) (yv := .agg #[.slice (some ⟨b1, 0, none⟩) (([(0, 1, 0, 80), (0, 3, 0, 80), (0, 0, 0, 80), (0, 2, 0, 80)] : List (Int × Int × Int × Int))).length 4, .int .i64 12]) rfl rfl rfl rfl hr5 ?_
  refine ⟨.inl rfl, ?_⟩
  have hst := Stp.ev' (ls := [[b3], []]) he5 (mem_flat 0 rfl)
  replace hs1 := hs1.step hst
  replace hms := hms.ev he5
  replace hev := hev.then he5 (fun b hb => .inr (hfr.at 0 rfl b hb))
  replace hb3 := hb5
  refine x_end rfl ?_
  refine k_then ?_
  refine c_norm [(1, .pointer (some ⟨b3, 0, none⟩))] ⟨rfl, trivial⟩ (fun J => ?_)
  refine c_seq ?_
  refine c_plain ?_
  refine x_buildSlice (vs := [(0, .int .i64 1), (1, .int .i64 2), (2, .int .i64 0), (3, .int .i64 1)]) #[.int .i64 1, .int .i64 2, .int .i64 0, .int .i64 1] 3 rfl rfl rfl (by kernel_rfl) (fun b6 w6 hq6 hb6 he6 _ => ?_)
  refine ⟨.inl rfl, ?_⟩
  have hms0 := hms
  have hst := Stp.ext (ls := [[b3], []]) he6
  replace hs1 := hs1.step hst
  replace hb3 := he6.box hb3 (fun h => by cases h)
  replace hms := hms.ev he6
  replace hev := hev.ext he6
  have hs6 : SlR (eInt .i64) w6 (fl [[b3], []]) (some ⟨b6, 0, none⟩) 4 ([1, 2, 0, 1]) := ro_of_box hms0 hq6 hb6 rfl rfl (cells_at (cs := [.int .i64 1, .int .i64 2, .int .i64 0, .int .i64 1]) (CellsOf.cons (c := [.int .i64 1]) rfl (CellsOf.cons (c := [.int .i64 2]) rfl (CellsOf.cons (c := [.int .i64 0]) rfl (CellsOf.cons (c := [.int .i64 1]) rfl CellsOf.nil)))))
  clear hb6 hms0
  refine x_build (vs := [(0, .int .i64 2), (1, .slice (some ⟨b6, 0, none⟩) ([1, 2, 0, 1]).length 4)]) (.agg #[.int .i64 2, .slice (some ⟨b6, 0, none⟩) ([1, 2, 0, 1]).length 4]) rfl rfl rfl (fun _ _ => by kernel_rfl) ?_
  refine x_alloc (z := .agg #[.int .i64 0, .slice none 0 0]) rfl rfl (by kernel_rfl) (fun b8 w8 hq8 hb8 he8 _ => ?_)
  replace hb8 : w8.heap[b8]? = some (.cells #[.int .i64 0, .slice none 0 0] 30 (0, 0)) := hb8
  refine ⟨.inl rfl, ?_⟩
  have hst := Stp.box (ls := [[b3], []]) he8 hq8
  replace hs1 := hs1.step hst
  replace hb3 := he8.box hb3 (fun h => by cases h)
  replace hs6 := hs6.step hst
  replace hms := hms.box he8 hq8 hb8
  replace hfr := hfr.box hev.size hq8
  replace hev := hev.ext he8
  obtain ⟨w10, hr10, hb10, he10⟩ := store_boxagg 0 [.int .i64 2, .slice (some ⟨b6, 0, none⟩) ([1, 2, 0, 1]).length 4] #[.int .i64 2, .slice (some ⟨b6, 0, none⟩) ([1, 2, 0, 1]).length 4] tagg30 hb8 rfl rfl rfl
  refine x_store w10 (xv := .pointer (some ⟨b8, 0, none⟩)) (yv := .agg #[.int .i64 2, .slice (some ⟨b6, 0, none⟩) ([1, 2, 0, 1]).length 4]) rfl rfl rfl rfl hr10 ?_
  refine ⟨.inl rfl, ?_⟩
  have hst := Stp.ev' (ls := [[b8], [b3], []]) he10 (mem_flat 0 rfl)
  replace hs1 := hs1.step hst
  replace hb3 := he10.box hb3 (hms.apart 1 0 rfl rfl rfl _ (List.mem_singleton.2 rfl))
  replace hs6 := hs6.step hst
  replace hms := hms.ev he10
  replace hev := hev.then he10 (fun b hb => .inr (hfr.at 0 rfl b hb))
  replace hb8 := hb10
  refine x_end rfl ?_
  refine k_then ?_
  refine c_norm [(1, .pointer (some ⟨b3, 0, none⟩)), (2, .pointer (some ⟨b8, 0, none⟩))] ⟨rfl, rfl, trivial⟩ (fun J => ?_)
  refine c_seq ?_
  refine c_plain ?_
  refine x_load (xv := .pointer (some ⟨b3, 0, none⟩)) (.agg #[.slice (some ⟨b1, 0, none⟩) (([(0, 1, 0, 80), (0, 3, 0, 80), (0, 0, 0, 80), (0, 2, 0, 80)] : List (Int × Int × Int × Int))).length 4, .int .i64 12]) rfl rfl rfl (reads_boxagg 0 [.slice (some ⟨b1, 0, none⟩) (([(0, 1, 0, 80), (0, 3, 0, 80), (0, 0, 0, 80), (0, 2, 0, 80)] : List (Int × Int × Int × Int))).length 4, .int .i64 12] tagg27 hb3 (fun h => by cases h) rfl) ?_
  refine x_load (xv := .pointer (some ⟨b8, 0, none⟩)) (.agg #[.int .i64 2, .slice (some ⟨b6, 0, none⟩) ([1, 2, 0, 1]).length 4]) rfl rfl rfl (reads_boxagg 0 [.int .i64 2, .slice (some ⟨b6, 0, none⟩) ([1, 2, 0, 1]).length 4] tagg30 hb8 (fun h => by cases h) rfl) ?_
  obtain ⟨x11, hx, h⟩ := bind_some h
  have hpk : MS w10 ([] ++ [[b8], [b3], []]) := hms.pick [some 0, some 1, some 2] _ rfl
  have hsb0 : ∀ x ∈ fl ([] ++ [[b8], [b3], []]), x ∈ fl [[b8], [b3], []] := pick_sub [some 0, some 1, some 2] _ rfl
  have hsb : ∀ x ∈ fl ([] ++ [(fl [[b8], [b3], []])]), x ∈ fl [[b8], [b3], []] := fun x hx => hsb0 x (fl_unfold x hx)
  have hcall := rollin_Contents_w (some ⟨b1, 0, none⟩) 4 ([(0, 1, 0, 80), (0, 3, 0, 80), (0, 0, 0, 80), (0, 2, 0, 80)] : List (Int × Int × Int × Int)) 12 2 (some ⟨b6, 0, none⟩) 4 ([1, 2, 0, 1]) 0 _ w10 (fl [[b8], [b3], []]) (MS.fold (P := []) hpk) (hs1.sub hsb) (hs6.sub hsb) hx
  refine x_call 16 #[] #[] [.agg #[.slice (some ⟨b1, 0, none⟩) (([(0, 1, 0, 80), (0, 3, 0, 80), (0, 0, 0, 80), (0, 2, 0, 80)] : List (Int × Int × Int × Int))).length 4, .int .i64 12], .agg #[.int .i64 2, .slice (some ⟨b6, 0, none⟩) ([1, 2, 0, 1]).length 4], .int .i64 0] _ rfl rfl rfl rfl hcall ?_
  rintro v w12 ⟨a0_12, c0_12, B2_12, a3_12, c3_12, B5_12, rfl, he12, hmn12, hfn12, hf12_1, hf12_2⟩
  clear hcall hx
  refine ⟨.inl rfl, ?_⟩
  have hpk2 : MS w10 ([] ++ [[b8], [b3], []]) := hms.pick [some 0, some 1, some 2] _ rfl
  have hsb2 : ∀ x ∈ fl ([] ++ [[b8], [b3], []]), x ∈ fl [[b8], [b3], []] := pick_sub [some 0, some 1, some 2] _ rfl
  have hst0 := Stp.call (LS := [[b8], [b3], []]) (res := [B2_12, B5_12]) (par := []) (R := [[b8], [b3], []]) he12 (fun b hb => hsb2 b (fl_left' (P := []) b hb)) hfn12 (NP.init _ _) (fun x hx => hsb2 x (fl_right' (P := []) x hx))
  have hsn : ∀ x ∈ fl [B2_12, B5_12, [b8], [b3], []], x ∈ fl ([B2_12, B5_12] ++ ([] ++ [[b8], [b3], []])) := pick_sub [some 0, some 1, some 2, some 3, some 4] _ rfl
  have hst := hst0.res hsn
  replace hs1 := hs1.step hst
  replace hb3 := he12.box hb3 ((MS.outs (P := []) hpk2 1 rfl) _ (List.mem_singleton.2 rfl))
  replace hs6 := hs6.step hst
  replace hb8 := he12.box hb8 ((MS.outs (P := []) hpk2 0 rfl) _ (List.mem_singleton.2 rfl))
  replace hms : MS w12 [B2_12, B5_12, [b8], [b3], []] := (MS.call (P := []) (R := [[b8], [b3], []]) (res := [B2_12, B5_12]) (par := []) hpk2 he12 hmn12 hfn12 (NP.init _ _)).pick [some 0, some 1, some 2, some 3, some 4] _ rfl
  have hfr2 : FR w.heap.size [B2_12, B5_12, [b8], [b3]] := (FR.cons (fun b hb => Nat.le_trans hev.size (hfn12.at 0 rfl b hb)) (FR.cons (fun b hb => Nat.le_trans hev.size (hfn12.at 1 rfl b hb)) (FR.cons (hfr.at 0 rfl) (FR.cons (hfr.at 1 rfl) (FR.nil _)))))
  replace hev := hev.ext he12
  replace hfr := hfr2
  clear hfr2
  clear hpk hsb hsb0 hpk2 hsb2 hst0 hsn hst
  have hpk : MS w12 [B5_12, [b8], [b3], []] := hms.pick [some 1, some 2, some 3, some 4] _ rfl
  have hsu : ∀ x ∈ fl [B5_12, [b8], [b3], []], x ∈ fl [B2_12, B5_12, [b8], [b3], []] := pick_sub [some 1, some 2, some 3, some 4] _ rfl
  replace hs1 := hs1.sub hsu
  replace hs6 := hs6.sub hsu
  replace hf12_1 := hf12_1.ro (plain_int _) (pick_out hms 0 rfl [some 1, some 2, some 3, some 4] [B5_12, [b8], [b3], []] rfl rfl)
  replace hms := hpk
  replace hfr : FR w.heap.size [B5_12, [b8], [b3]] := hfr.pick [some 1, some 2, some 3] _ rfl
  clear hpk hsu
  have hpk : MS w12 [[b8], [b3], []] := hms.pick [some 1, some 2, some 3] _ rfl
  have hsu : ∀ x ∈ fl [[b8], [b3], []], x ∈ fl [B5_12, [b8], [b3], []] := pick_sub [some 1, some 2, some 3] _ rfl
  replace hs1 := hs1.sub hsu
  replace hs6 := hs6.sub hsu
  replace hf12_1 := hf12_1.sub hsu
  replace hf12_2 := hf12_2.ro (plain_int _) (pick_out hms 0 rfl [some 1, some 2, some 3] [[b8], [b3], []] rfl rfl)
  replace hms := hpk
  replace hfr : FR w.heap.size [[b8], [b3]] := hfr.pick [some 1, some 2] _ rfl
  clear hpk hsu
  refine x_pure 7 [(18, .tuple #[.slice a0_12 (x11.1).length c0_12, .slice a3_12 (x11.2.1).length c3_12, .int .i64 x11.2.2]), (22, .slice a0_12 (x11.1).length c0_12), (23, .slice a3_12 (x11.2.1).length c3_12), (24, .int .i64 x11.2.2), (3, .slice a0_12 (x11.1).length c0_12), (4, .slice a3_12 (x11.2.1).length c3_12), (5, .int .i64 x11.2.2)] _ _ _ (by kernel_rfl) ?_
  refine x_end rfl ?_
  refine k_then ?_
  refine c_norm [(1, .pointer (some ⟨b3, 0, none⟩)), (2, .pointer (some ⟨b8, 0, none⟩)), (3, .slice a0_12 (x11.1).length c0_12), (4, .slice a3_12 (x11.2.1).length c3_12), (5, .int .i64 x11.2.2)] ⟨rfl, rfl, rfl, rfl, rfl, trivial⟩ (fun J => ?_)
  refine c_seq ?_
  refine c_plain ?_
  refine x_load (xv := .pointer (some ⟨b3, 0, none⟩)) (.agg #[.slice (some ⟨b1, 0, none⟩) (([(0, 1, 0, 80), (0, 3, 0, 80), (0, 0, 0, 80), (0, 2, 0, 80)] : List (Int × Int × Int × Int))).length 4, .int .i64 12]) rfl rfl rfl (reads_boxagg 0 [.slice (some ⟨b1, 0, none⟩) (([(0, 1, 0, 80), (0, 3, 0, 80), (0, 0, 0, 80), (0, 2, 0, 80)] : List (Int × Int × Int × Int))).length 4, .int .i64 12] tagg27 hb3 (fun h => by cases h) rfl) ?_
  refine x_load (xv := .pointer (some ⟨b8, 0, none⟩)) (.agg #[.int .i64 2, .slice (some ⟨b6, 0, none⟩) ([1, 2, 0, 1]).length 4]) rfl rfl rfl (reads_boxagg 0 [.int .i64 2, .slice (some ⟨b6, 0, none⟩) ([1, 2, 0, 1]).length 4] tagg30 hb8 (fun h => by cases h) rfl) ?_
  obtain ⟨x15, hx, h⟩ := bind_some h
  have hpk : MS w12 ([] ++ [[b8], [b3], []]) := hms.pick [some 0, some 1, some 2] _ rfl
  have hsb0 : ∀ x ∈ fl ([] ++ [[b8], [b3], []]), x ∈ fl [[b8], [b3], []] := pick_sub [some 0, some 1, some 2] _ rfl
  have hsb : ∀ x ∈ fl ([] ++ [(fl [[b8], [b3], []])]), x ∈ fl [[b8], [b3], []] := fun x hx => hsb0 x (fl_unfold x hx)
  have hcall := rollin_Run_w (some ⟨b1, 0, none⟩) 4 ([(0, 1, 0, 80), (0, 3, 0, 80), (0, 0, 0, 80), (0, 2, 0, 80)] : List (Int × Int × Int × Int)) 12 2 (some ⟨b6, 0, none⟩) 4 ([1, 2, 0, 1]) _ w12 (fl [[b8], [b3], []]) (MS.fold (P := []) hpk) (hs1.sub hsb) (hs6.sub hsb) hx
  refine x_call 14 #[] #[] [.agg #[.slice (some ⟨b1, 0, none⟩) (([(0, 1, 0, 80), (0, 3, 0, 80), (0, 0, 0, 80), (0, 2, 0, 80)] : List (Int × Int × Int × Int))).length 4, .int .i64 12], .agg #[.int .i64 2, .slice (some ⟨b6, 0, none⟩) ([1, 2, 0, 1]).length 4]] _ rfl rfl rfl rfl hcall ?_
  rintro v w16 ⟨a0_16, c0_16, B2_16, rfl, he16, hmn16, hfn16, hf16_1⟩
  clear hcall hx
  refine ⟨.inl rfl, ?_⟩
  have hpk2 : MS w12 ([] ++ [[b8], [b3], []]) := hms.pick [some 0, some 1, some 2] _ rfl
  have hsb2 : ∀ x ∈ fl ([] ++ [[b8], [b3], []]), x ∈ fl [[b8], [b3], []] := pick_sub [some 0, some 1, some 2] _ rfl
  have hst0 := Stp.call (LS := [[b8], [b3], []]) (res := [B2_16]) (par := []) (R := [[b8], [b3], []]) he16 (fun b hb => hsb2 b (fl_left' (P := []) b hb)) hfn16 (NP.init _ _) (fun x hx => hsb2 x (fl_right' (P := []) x hx))
  have hsn : ∀ x ∈ fl [B2_16, [b8], [b3], []], x ∈ fl ([B2_16] ++ ([] ++ [[b8], [b3], []])) := pick_sub [some 0, some 1, some 2, some 3] _ rfl
  have hst := hst0.res hsn
  replace hs1 := hs1.step hst
  replace hb3 := he16.box hb3 ((MS.outs (P := []) hpk2 1 rfl) _ (List.mem_singleton.2 rfl))
  replace hs6 := hs6.step hst
  replace hb8 := he16.box hb8 ((MS.outs (P := []) hpk2 0 rfl) _ (List.mem_singleton.2 rfl))
  replace hf12_1 := hf12_1.step hst
  replace hf12_2 := hf12_2.step hst
  replace hms : MS w16 [B2_16, [b8], [b3], []] := (MS.call (P := []) (R := [[b8], [b3], []]) (res := [B2_16]) (par := []) hpk2 he16 hmn16 hfn16 (NP.init _ _)).pick [some 0, some 1, some 2, some 3] _ rfl
  have hfr2 : FR w.heap.size [B2_16, [b8], [b3]] := (FR.cons (fun b hb => Nat.le_trans hev.size (hfn16.at 0 rfl b hb)) (FR.cons (hfr.at 0 rfl) (FR.cons (hfr.at 1 rfl) (FR.nil _))))
  replace hev := hev.ext he16
  replace hfr := hfr2
  clear hfr2
  clear hpk hsb hsb0 hpk2 hsb2 hst0 hsn hst
  have hpk : MS w16 [[b8], [b3], []] := hms.pick [some 1, some 2, some 3] _ rfl
  have hsu : ∀ x ∈ fl [[b8], [b3], []], x ∈ fl [B2_16, [b8], [b3], []] := pick_sub [some 1, some 2, some 3] _ rfl
  replace hs1 := hs1.sub hsu
  replace hs6 := hs6.sub hsu
  replace hf12_1 := hf12_1.sub hsu
  replace hf12_2 := hf12_2.sub hsu
  replace hf16_1 := hf16_1.ro (plain_int _) (pick_out hms 0 rfl [some 1, some 2, some 3] [[b8], [b3], []] rfl rfl)
  replace hms := hpk
  replace hfr : FR w.heap.size [[b8], [b3]] := hfr.pick [some 1, some 2] _ rfl
  clear hpk hsu
  refine x_pure 3 [(25, .tuple #[.agg #[.slice a0_16 (x15.1.1).length c0_16, .int .i64 x15.1.2], .int .i64 x15.2]), (29, .agg #[.slice a0_16 (x15.1.1).length c0_16, .int .i64 x15.1.2]), (30, .int .i64 x15.2)] _ _ _ (by kernel_rfl) ?_
  refine x_alloc (z := .agg #[.slice none 0 0, .int .i64 0]) rfl rfl (by kernel_rfl) (fun b18 w18 hq18 hb18 he18 _ => ?_)
  replace hb18 : w18.heap[b18]? = some (.cells #[.slice none 0 0, .int .i64 0] 34 (0, 0)) := hb18
  refine ⟨.inl rfl, ?_⟩
  have hst := Stp.box (ls := [[b8], [b3], []]) he18 hq18
  replace hs1 := hs1.step hst
  replace hb3 := he18.box hb3 (fun h => by cases h)
  replace hs6 := hs6.step hst
  replace hb8 := he18.box hb8 (fun h => by cases h)
  replace hf12_1 := hf12_1.step hst
  replace hf12_2 := hf12_2.step hst
  replace hf16_1 := hf16_1.step hst
  replace hms := hms.box he18 hq18 hb18
  replace hfr := hfr.box hev.size hq18
  replace hev := hev.ext he18
  obtain ⟨w20, hr20, hb20, he20⟩ := store_boxagg 0 [.slice a0_16 (x15.1.1).length c0_16, .int .i64 x15.1.2] #[.slice a0_16 (x15.1.1).length c0_16, .int .i64 x15.1.2] tagg34 hb18 rfl rfl rfl
  refine x_store w20 (xv := .pointer (some ⟨b18, 0, none⟩)) (yv := .agg #[.slice a0_16 (x15.1.1).length c0_16, .int .i64 x15.1.2]) rfl rfl rfl rfl hr20 ?_
  refine ⟨.inl rfl, ?_⟩
  have hst := Stp.ev' (ls := [[b18], [b8], [b3], []]) he20 (mem_flat 0 rfl)
  replace hs1 := hs1.step hst
  replace hb3 := he20.box hb3 (hms.apart 2 0 rfl rfl rfl _ (List.mem_singleton.2 rfl))
  replace hs6 := hs6.step hst
  replace hb8 := he20.box hb8 (hms.apart 1 0 rfl rfl rfl _ (List.mem_singleton.2 rfl))
  replace hf12_1 := hf12_1.step hst
  replace hf12_2 := hf12_2.step hst
  replace hf16_1 := hf16_1.step hst
  replace hms := hms.ev he20
  replace hev := hev.then he20 (fun b hb => .inr (hfr.at 0 rfl b hb))
  replace hb18 := hb20
  refine x_pure 1 [(7, .int .i64 x15.2)] _ _ _ (by kernel_rfl) ?_
  refine x_end rfl ?_
  refine k_then ?_
  refine c_norm [(1, .pointer (some ⟨b3, 0, none⟩)), (2, .pointer (some ⟨b8, 0, none⟩)), (3, .slice a0_12 (x11.1).length c0_12), (4, .slice a3_12 (x11.2.1).length c3_12), (5, .int .i64 x11.2.2), (6, .pointer (some ⟨b18, 0, none⟩)), (7, .int .i64 x15.2)] ⟨rfl, rfl, rfl, rfl, rfl, rfl, rfl, trivial⟩ (fun J => ?_)
  refine c_seq ?_
  refine c_plain ?_
  refine x_load (xv := .pointer (some ⟨b3, 0, none⟩)) (.agg #[.slice (some ⟨b1, 0, none⟩) (([(0, 1, 0, 80), (0, 3, 0, 80), (0, 0, 0, 80), (0, 2, 0, 80)] : List (Int × Int × Int × Int))).length 4, .int .i64 12]) rfl rfl rfl (reads_boxagg 0 [.slice (some ⟨b1, 0, none⟩) (([(0, 1, 0, 80), (0, 3, 0, 80), (0, 0, 0, 80), (0, 2, 0, 80)] : List (Int × Int × Int × Int))).length 4, .int .i64 12] tagg27 hb3 (fun h => by cases h) rfl) ?_
  refine x_load (xv := .pointer (some ⟨b8, 0, none⟩)) (.agg #[.int .i64 2, .slice (some ⟨b6, 0, none⟩) ([1, 2, 0, 1]).length 4]) rfl rfl rfl (reads_boxagg 0 [.int .i64 2, .slice (some ⟨b6, 0, none⟩) ([1, 2, 0, 1]).length 4] tagg30 hb8 (fun h => by cases h) rfl) ?_
  obtain ⟨x21, hx, h⟩ := bind_some h
  have hpk : MS w20 ([] ++ [[b18], [b8], [b3], []]) := hms.pick [some 0, some 1, some 2, some 3] _ rfl
  have hsb0 : ∀ x ∈ fl ([] ++ [[b18], [b8], [b3], []]), x ∈ fl [[b18], [b8], [b3], []] := pick_sub [some 0, some 1, some 2, some 3] _ rfl
  have hsb : ∀ x ∈ fl ([] ++ [(fl [[b18], [b8], [b3], []])]), x ∈ fl [[b18], [b8], [b3], []] := fun x hx => hsb0 x (fl_unfold x hx)
  have hcall := rollin_Loads_w (some ⟨b1, 0, none⟩) 4 ([(0, 1, 0, 80), (0, 3, 0, 80), (0, 0, 0, 80), (0, 2, 0, 80)] : List (Int × Int × Int × Int)) 12 2 (some ⟨b6, 0, none⟩) 4 ([1, 2, 0, 1]) _ w20 (fl [[b18], [b8], [b3], []]) (MS.fold (P := []) hpk) (hs1.sub hsb) (hs6.sub hsb) hx
  refine x_call 17 #[] #[] [.agg #[.slice (some ⟨b1, 0, none⟩) (([(0, 1, 0, 80), (0, 3, 0, 80), (0, 0, 0, 80), (0, 2, 0, 80)] : List (Int × Int × Int × Int))).length 4, .int .i64 12], .agg #[.int .i64 2, .slice (some ⟨b6, 0, none⟩) ([1, 2, 0, 1]).length 4]] _ rfl rfl rfl rfl hcall ?_
  rintro v w22 ⟨a0_22, c0_22, rfl, he22, hmn22, hfn22, hf22_1⟩
  clear hcall hx
  refine ⟨.inl rfl, ?_⟩
  have hpk2 : MS w20 ([] ++ [[b18], [b8], [b3], []]) := hms.pick [some 0, some 1, some 2, some 3] _ rfl
  have hsb2 : ∀ x ∈ fl ([] ++ [[b18], [b8], [b3], []]), x ∈ fl [[b18], [b8], [b3], []] := pick_sub [some 0, some 1, some 2, some 3] _ rfl
  have hst0 := Stp.call (LS := [[b18], [b8], [b3], []]) (res := [blk a0_22]) (par := []) (R := [[b18], [b8], [b3], []]) he22 (fun b hb => hsb2 b (fl_left' (P := []) b hb)) hfn22 (NP.init _ _) (fun x hx => hsb2 x (fl_right' (P := []) x hx))
  have hsn : ∀ x ∈ fl [blk a0_22, [b18], [b8], [b3], []], x ∈ fl ([blk a0_22] ++ ([] ++ [[b18], [b8], [b3], []])) := pick_sub [some 0, some 1, some 2, some 3, some 4] _ rfl
  have hst := hst0.res hsn
  replace hs1 := hs1.step hst
  replace hb3 := he22.box hb3 ((MS.outs (P := []) hpk2 2 rfl) _ (List.mem_singleton.2 rfl))
  replace hs6 := hs6.step hst
  replace hb8 := he22.box hb8 ((MS.outs (P := []) hpk2 1 rfl) _ (List.mem_singleton.2 rfl))
  replace hf12_1 := hf12_1.step hst
  replace hf12_2 := hf12_2.step hst
  replace hf16_1 := hf16_1.step hst
  replace hb18 := he22.box hb18 ((MS.outs (P := []) hpk2 0 rfl) _ (List.mem_singleton.2 rfl))
  replace hms : MS w22 [blk a0_22, [b18], [b8], [b3], []] := (MS.call (P := []) (R := [[b18], [b8], [b3], []]) (res := [blk a0_22]) (par := []) hpk2 he22 hmn22 hfn22 (NP.init _ _)).pick [some 0, some 1, some 2, some 3, some 4] _ rfl
  have hfr2 : FR w.heap.size [blk a0_22, [b18], [b8], [b3]] := (FR.cons (fun b hb => Nat.le_trans hev.size (hfn22.at 0 rfl b hb)) (FR.cons (hfr.at 0 rfl) (FR.cons (hfr.at 1 rfl) (FR.cons (hfr.at 2 rfl) (FR.nil _)))))
  replace hev := hev.ext he22
  replace hfr := hfr2
  clear hfr2
  replace hf22_1 := OwnS.plain (M' := fl [blk a0_22, [b18], [b8], [b3], []]) (plain_int _) hf22_1
  clear hpk hsb hsb0 hpk2 hsb2 hst0 hsn hst
  have hpk : MS w22 [[b18], [b8], [b3], []] := hms.pick [some 1, some 2, some 3, some 4] _ rfl
  have hsu : ∀ x ∈ fl [[b18], [b8], [b3], []], x ∈ fl [blk a0_22, [b18], [b8], [b3], []] := pick_sub [some 1, some 2, some 3, some 4] _ rfl
  replace hs1 := hs1.sub hsu
  replace hs6 := hs6.sub hsu
  replace hf12_1 := hf12_1.sub hsu
  replace hf12_2 := hf12_2.sub hsu
  replace hf16_1 := hf16_1.sub hsu
  replace hf22_1 := hf22_1.ro hsu (pick_out hms 0 rfl [some 1, some 2, some 3, some 4] [[b18], [b8], [b3], []] rfl rfl)
  replace hms := hpk
  replace hfr : FR w.heap.size [[b18], [b8], [b3]] := hfr.pick [some 1, some 2, some 3] _ rfl
  clear hpk hsu
  refine x_pure 5 [(31, .tuple #[.slice a0_22 (x21.1).length c0_22, .int .i64 x21.2]), (35, .slice a0_22 (x21.1).length c0_22), (36, .int .i64 x21.2), (8, .slice a0_22 (x21.1).length c0_22), (9, .int .i64 x21.2)] _ _ _ (by kernel_rfl) ?_
  refine x_end rfl ?_
  refine k_then ?_
  refine c_norm [(3, .slice a0_12 (x11.1).length c0_12), (4, .slice a3_12 (x11.2.1).length c3_12), (5, .int .i64 x11.2.2), (6, .pointer (some ⟨b18, 0, none⟩)), (7, .int .i64 x15.2), (8, .slice a0_22 (x21.1).length c0_22), (9, .int .i64 x21.2)] ⟨rfl, rfl, rfl, rfl, rfl, rfl, rfl, trivial⟩ (fun J => ?_)
  refine c_seq ?_
  refine c_plain ?_
  refine x_pure 3 [(37, .int .i64 x11.2.2), (38, .bool (x11.2.2 == 0)), (39, .bool (x11.2.2 == 0))] _ _ _ (by kernel_rfl) ?_
  refine x_split 39 (x11.2.2 == 0) rfl (fun hb => ?_) (fun hb => ?_)
  · replace h := ite_t hb h
    refine x_pure 1 [(40, .slice a0_12 (x11.1).length c0_12)] _ _ _ (by kernel_rfl) ?_
    refine x_buildSlice (vs := [(0, .int .i64 0), (1, .int .i64 3)]) #[.int .i64 0, .int .i64 3] 3 rfl rfl rfl (by kernel_rfl) (fun b24 w24 hq24 hb24 he24 _ => ?_)
    refine ⟨.inl rfl, ?_⟩
    have hms0 := hms
    have hst := Stp.ext (ls := [[b18], [b8], [b3], []]) he24
    replace hs1 := hs1.step hst
    replace hb3 := he24.box hb3 (fun h => by cases h)
    replace hs6 := hs6.step hst
    replace hb8 := he24.box hb8 (fun h => by cases h)
    replace hf12_1 := hf12_1.step hst
    replace hf12_2 := hf12_2.step hst
    replace hf16_1 := hf16_1.step hst
    replace hb18 := he24.box hb18 (fun h => by cases h)
    replace hf22_1 := hf22_1.step hst
    replace hms := hms.ev he24
    replace hev := hev.ext he24
    have hs24 : SlR (eInt .i64) w24 (fl [[b18], [b8], [b3], []]) (some ⟨b24, 0, none⟩) 2 ([0, 3]) := ro_of_box hms0 hq24 hb24 rfl rfl (cells_at (cs := [.int .i64 0, .int .i64 3]) (CellsOf.cons (c := [.int .i64 0]) rfl (CellsOf.cons (c := [.int .i64 3]) rfl CellsOf.nil)))
    clear hb24 hms0
    refine x_buildSlice (vs := [(0, .int .i64 1)]) #[.int .i64 1] 3 rfl rfl rfl (by kernel_rfl) (fun b26 w26 hq26 hb26 he26 _ => ?_)
    refine ⟨.inl rfl, ?_⟩
    have hms0 := hms
    have hst := Stp.ext (ls := [[b18], [b8], [b3], []]) he26
    replace hs1 := hs1.step hst
    replace hb3 := he26.box hb3 (fun h => by cases h)
    replace hs6 := hs6.step hst
    replace hb8 := he26.box hb8 (fun h => by cases h)
    replace hf12_1 := hf12_1.step hst
    replace hf12_2 := hf12_2.step hst
    replace hf16_1 := hf16_1.step hst
    replace hb18 := he26.box hb18 (fun h => by cases h)
    replace hf22_1 := hf22_1.step hst
    replace hs24 := hs24.step hst
    replace hms := hms.ev he26
    replace hev := hev.ext he26
    have hs26 : SlR (eInt .i64) w26 (fl [[b18], [b8], [b3], []]) (some ⟨b26, 0, none⟩) 1 ([1]) := ro_of_box hms0 hq26 hb26 rfl rfl (cells_at (cs := [.int .i64 1]) (CellsOf.cons (c := [.int .i64 1]) rfl CellsOf.nil))
    clear hb26 hms0
    refine x_buildSlice (vs := [(0, .slice (some ⟨b24, 0, none⟩) ([0, 3]).length 2), (1, .slice (some ⟨b26, 0, none⟩) ([1]).length 1)]) #[.slice (some ⟨b24, 0, none⟩) ([0, 3]).length 2, .slice (some ⟨b26, 0, none⟩) ([1]).length 1] 22 rfl rfl rfl (by kernel_rfl) (fun b28 w28 hq28 hb28 he28 _ => ?_)
    refine ⟨.inl rfl, ?_⟩
    have hms0 := hms
    have hst := Stp.ext (ls := [[b18], [b8], [b3], []]) he28
    replace hs1 := hs1.step hst
    replace hb3 := he28.box hb3 (fun h => by cases h)
    replace hs6 := hs6.step hst
    replace hb8 := he28.box hb8 (fun h => by cases h)
    replace hf12_1 := hf12_1.step hst
    replace hf12_2 := hf12_2.step hst
    replace hf16_1 := hf16_1.step hst
    replace hb18 := he28.box hb18 (fun h => by cases h)
    replace hf22_1 := hf22_1.step hst
    replace hs24 := hs24.step hst
    replace hs26 := hs26.step hst
    replace hms := hms.ev he28
    replace hev := hev.ext he28
    have hs28 : SlR (eSl (eInt .i64)) w28 (fl [[b18], [b8], [b3], []]) (some ⟨b28, 0, none⟩) 2 ([[0, 3], [1]] : List (List Int)) := ro_of_box hms0 hq28 hb28 rfl rfl (cells_at (cs := [.slice (some ⟨b24, 0, none⟩) ([0, 3]).length 2, .slice (some ⟨b26, 0, none⟩) ([1]).length 1]) (CellsOf.cons (c := [.slice (some ⟨b24, 0, none⟩) ([0, 3]).length 2]) ⟨(some ⟨b24, 0, none⟩), 2, rfl, hs24⟩ (CellsOf.cons (c := [.slice (some ⟨b26, 0, none⟩) ([1]).length 1]) ⟨(some ⟨b26, 0, none⟩), 1, rfl, hs26⟩ CellsOf.nil)))
    clear hb28 hms0
    obtain ⟨x30, hx, h⟩ := bind_some h
    have hpk : MS w28 ([] ++ [[b18], [b8], [b3], []]) := hms.pick [some 0, some 1, some 2, some 3] _ rfl
    have hsb0 : ∀ x ∈ fl ([] ++ [[b18], [b8], [b3], []]), x ∈ fl [[b18], [b8], [b3], []] := pick_sub [some 0, some 1, some 2, some 3] _ rfl
    have hsb : ∀ x ∈ fl ([] ++ [(fl [[b18], [b8], [b3], []])]), x ∈ fl [[b18], [b8], [b3], []] := fun x hx => hsb0 x (fl_unfold x hx)
    have hcall := gen_Lists_w a0_12 c0_12 x11.1 (some ⟨b28, 0, none⟩) 2 ([[0, 3], [1]] : List (List Int)) _ w28 (fl [[b18], [b8], [b3], []]) (MS.fold (P := []) hpk) (hf12_1.sub hsb) (hs28.sub hsb) hx
    refine x_call 20 #[] #[] [.slice a0_12 (x11.1).length c0_12, .slice (some ⟨b28, 0, none⟩) (([[0, 3], [1]] : List (List Int))).length 2] _ rfl rfl rfl rfl hcall ?_
    rintro v w31 ⟨rfl, he31⟩
    clear hcall hx
    refine ⟨.inl rfl, ?_⟩
    have hst := Stp.ext (ls := [[b18], [b8], [b3], []]) he31
    replace hs1 := hs1.step hst
    replace hb3 := he31.box hb3 (fun h => by cases h)
    replace hs6 := hs6.step hst
    replace hb8 := he31.box hb8 (fun h => by cases h)
    replace hf12_1 := hf12_1.step hst
    replace hf12_2 := hf12_2.step hst
    replace hf16_1 := hf16_1.step hst
    replace hb18 := he31.box hb18 (fun h => by cases h)
    replace hf22_1 := hf22_1.step hst
    replace hs24 := hs24.step hst
    replace hs26 := hs26.step hst
    replace hs28 := hs28.step hst
    replace hms := hms.ev he31
    replace hev := hev.ext he31
    clear hpk hsb hsb0
    refine x_pure 2 [(45, .bool x30), (46, .bool x30)] _ _ _ (by kernel_rfl) ?_
    refine x_split 46 x30 rfl (fun hb => ?_) (fun hb => ?_)
    · replace h := ite_t hb h
      refine x_pure 1 [(47, .slice a3_12 (x11.2.1).length c3_12)] _ _ _ (by kernel_rfl) ?_
      refine x_buildSlice (vs := [(0, .int .i64 2)]) #[.int .i64 2] 3 rfl rfl rfl (by kernel_rfl) (fun b32 w32 hq32 hb32 he32 _ => ?_)
      refine ⟨.inl rfl, ?_⟩
      have hms0 := hms
      have hst := Stp.ext (ls := [[b18], [b8], [b3], []]) he32
      replace hs1 := hs1.step hst
      replace hb3 := he32.box hb3 (fun h => by cases h)
      replace hs6 := hs6.step hst
      replace hb8 := he32.box hb8 (fun h => by cases h)
      replace hf12_1 := hf12_1.step hst
      replace hf12_2 := hf12_2.step hst
      replace hf16_1 := hf16_1.step hst
      replace hb18 := he32.box hb18 (fun h => by cases h)
      replace hf22_1 := hf22_1.step hst
      replace hs24 := hs24.step hst
      replace hs26 := hs26.step hst
      replace hs28 := hs28.step hst
      replace hms := hms.ev he32
      replace hev := hev.ext he32
      have hs32 : SlR (eInt .i64) w32 (fl [[b18], [b8], [b3], []]) (some ⟨b32, 0, none⟩) 1 ([2]) := ro_of_box hms0 hq32 hb32 rfl rfl (cells_at (cs := [.int .i64 2]) (CellsOf.cons (c := [.int .i64 2]) rfl CellsOf.nil))
      clear hb32 hms0
      refine x_buildSlice (vs := [(0, .slice (some ⟨b32, 0, none⟩) ([2]).length 1)]) #[.slice (some ⟨b32, 0, none⟩) ([2]).length 1] 22 rfl rfl rfl (by kernel_rfl) (fun b34 w34 hq34 hb34 he34 _ => ?_)
      refine ⟨.inl rfl, ?_⟩
      have hms0 := hms
      have hst := Stp.ext (ls := [[b18], [b8], [b3], []]) he34
      replace hs1 := hs1.step hst
      replace hb3 := he34.box hb3 (fun h => by cases h)
      replace hs6 := hs6.step hst
      replace hb8 := he34.box hb8 (fun h => by cases h)
      replace hf12_1 := hf12_1.step hst
      replace hf12_2 := hf12_2.step hst
      replace hf16_1 := hf16_1.step hst
      replace hb18 := he34.box hb18 (fun h => by cases h)
      replace hf22_1 := hf22_1.step hst
      replace hs24 := hs24.step hst
      replace hs26 := hs26.step hst
      replace hs28 := hs28.step hst
      replace hs32 := hs32.step hst
      replace hms := hms.ev he34
      replace hev := hev.ext he34
      have hs34 : SlR (eSl (eInt .i64)) w34 (fl [[b18], [b8], [b3], []]) (some ⟨b34, 0, none⟩) 1 ([[2]] : List (List Int)) := ro_of_box hms0 hq34 hb34 rfl rfl (cells_at (cs := [.slice (some ⟨b32, 0, none⟩) ([2]).length 1]) (CellsOf.cons (c := [.slice (some ⟨b32, 0, none⟩) ([2]).length 1]) ⟨(some ⟨b32, 0, none⟩), 1, rfl, hs32⟩ CellsOf.nil))
      clear hb34 hms0
      obtain ⟨x36, hx, h⟩ := bind_some h
      have hpk : MS w34 ([] ++ [[b18], [b8], [b3], []]) := hms.pick [some 0, some 1, some 2, some 3] _ rfl
      have hsb0 : ∀ x ∈ fl ([] ++ [[b18], [b8], [b3], []]), x ∈ fl [[b18], [b8], [b3], []] := pick_sub [some 0, some 1, some 2, some 3] _ rfl
      have hsb : ∀ x ∈ fl ([] ++ [(fl [[b18], [b8], [b3], []])]), x ∈ fl [[b18], [b8], [b3], []] := fun x hx => hsb0 x (fl_unfold x hx)
      have hcall := gen_Lists_w a3_12 c3_12 x11.2.1 (some ⟨b34, 0, none⟩) 1 ([[2]] : List (List Int)) _ w34 (fl [[b18], [b8], [b3], []]) (MS.fold (P := []) hpk) (hf12_2.sub hsb) (hs34.sub hsb) hx
      refine x_call 20 #[] #[] [.slice a3_12 (x11.2.1).length c3_12, .slice (some ⟨b34, 0, none⟩) (([[2]] : List (List Int))).length 1] _ rfl rfl rfl rfl hcall ?_
      rintro v w37 ⟨rfl, he37⟩
      clear hcall hx
      refine ⟨.inl rfl, ?_⟩
      have hst := Stp.ext (ls := [[b18], [b8], [b3], []]) he37
      replace hs1 := hs1.step hst
      replace hb3 := he37.box hb3 (fun h => by cases h)
      replace hs6 := hs6.step hst
      replace hb8 := he37.box hb8 (fun h => by cases h)
      replace hf12_1 := hf12_1.step hst
      replace hf12_2 := hf12_2.step hst
      replace hf16_1 := hf16_1.step hst
      replace hb18 := he37.box hb18 (fun h => by cases h)
      replace hf22_1 := hf22_1.step hst
      replace hs24 := hs24.step hst
      replace hs26 := hs26.step hst
      replace hs28 := hs28.step hst
      replace hs32 := hs32.step hst
      replace hs34 := hs34.step hst
      replace hms := hms.ev he37
      replace hev := hev.ext he37
      clear hpk hsb hsb0
      refine x_pure 2 [(51, .bool x36), (52, .bool x36)] _ _ _ (by kernel_rfl) ?_
      refine x_split 52 x36 rfl (fun hb => ?_) (fun hb => ?_)
      · replace h := ite_t hb h
        refine x_pure 4 [(53, .int .i64 x15.2), (54, .bool (x15.2 == 0)), (55, .bool (x15.2 == 0)), (56, .bool (x15.2 == 0))] _ _ _ (by kernel_rfl) ?_
        refine x_split 56 (x15.2 == 0) rfl (fun hb => ?_) (fun hb => ?_)
        · replace h := ite_t hb h
          refine x_fieldAddr (xv := .pointer (some ⟨b18, 0, none⟩)) (.pointer (some ⟨b18, 0, none⟩)) rfl rfl rfl (reads_field tfld34_0 _ _) ?_
          refine x_load (xv := .pointer (some ⟨b18, 0, none⟩)) (.slice a0_16 (x15.1.1).length c0_16) rfl rfl rfl (reads_box tcell32 hb18 (fun h => by cases h) 0 _ rfl) ?_
          refine x_buildSlice (vs := [(0, .int .i64 2), (1, .int .i64 0), (2, .int .i64 3), (3, .int .i64 1)]) #[.int .i64 2, .int .i64 0, .int .i64 3, .int .i64 1] 3 rfl rfl rfl (by kernel_rfl) (fun b38 w38 hq38 hb38 he38 _ => ?_)
          refine ⟨.inl rfl, ?_⟩
          have hms0 := hms
          have hst := Stp.ext (ls := [[b18], [b8], [b3], []]) he38
          replace hs1 := hs1.step hst
          replace hb3 := he38.box hb3 (fun h => by cases h)
          replace hs6 := hs6.step hst
          replace hb8 := he38.box hb8 (fun h => by cases h)
          replace hf12_1 := hf12_1.step hst
          replace hf12_2 := hf12_2.step hst
          replace hf16_1 := hf16_1.step hst
          replace hb18 := he38.box hb18 (fun h => by cases h)
          replace hf22_1 := hf22_1.step hst
          replace hs24 := hs24.step hst
          replace hs26 := hs26.step hst
          replace hs28 := hs28.step hst
          replace hs32 := hs32.step hst
          replace hs34 := hs34.step hst
          replace hms := hms.ev he38
          replace hev := hev.ext he38
          have hs38 : SlR (eInt .i64) w38 (fl [[b18], [b8], [b3], []]) (some ⟨b38, 0, none⟩) 4 ([2, 0, 3, 1]) := ro_of_box hms0 hq38 hb38 rfl rfl (cells_at (cs := [.int .i64 2, .int .i64 0, .int .i64 3, .int .i64 1]) (CellsOf.cons (c := [.int .i64 2]) rfl (CellsOf.cons (c := [.int .i64 0]) rfl (CellsOf.cons (c := [.int .i64 3]) rfl (CellsOf.cons (c := [.int .i64 1]) rfl CellsOf.nil)))))
          clear hb38 hms0
          refine x_buildSlice (vs := [(0, .slice (some ⟨b38, 0, none⟩) ([2, 0, 3, 1]).length 4)]) #[.slice (some ⟨b38, 0, none⟩) ([2, 0, 3, 1]).length 4] 22 rfl rfl rfl (by kernel_rfl) (fun b40 w40 hq40 hb40 he40 _ => ?_)
          refine ⟨.inl rfl, ?_⟩
          have hms0 := hms
          have hst := Stp.ext (ls := [[b18], [b8], [b3], []]) he40
          replace hs1 := hs1.step hst
          replace hb3 := he40.box hb3 (fun h => by cases h)
          replace hs6 := hs6.step hst
          replace hb8 := he40.box hb8 (fun h => by cases h)
          replace hf12_1 := hf12_1.step hst
          replace hf12_2 := hf12_2.step hst
          replace hf16_1 := hf16_1.step hst
          replace hb18 := he40.box hb18 (fun h => by cases h)
          replace hf22_1 := hf22_1.step hst
          replace hs24 := hs24.step hst
          replace hs26 := hs26.step hst
          replace hs28 := hs28.step hst
          replace hs32 := hs32.step hst
          replace hs34 := hs34.step hst
          replace hs38 := hs38.step hst
          replace hms := hms.ev he40
          replace hev := hev.ext he40
          have hs40 : SlR (eSl (eInt .i64)) w40 (fl [[b18], [b8], [b3], []]) (some ⟨b40, 0, none⟩) 1 ([[2, 0, 3, 1]] : List (List Int)) := ro_of_box hms0 hq40 hb40 rfl rfl (cells_at (cs := [.slice (some ⟨b38, 0, none⟩) ([2, 0, 3, 1]).length 4]) (CellsOf.cons (c := [.slice (some ⟨b38, 0, none⟩) ([2, 0, 3, 1]).length 4]) ⟨(some ⟨b38, 0, none⟩), 4, rfl, hs38⟩ CellsOf.nil))
          clear hb40 hms0
          obtain ⟨x42, hx, h⟩ := bind_some h
          have hpk : MS w40 ([] ++ [[b18], [b8], [b3], []]) := hms.pick [some 0, some 1, some 2, some 3] _ rfl
          have hsb0 : ∀ x ∈ fl ([] ++ [[b18], [b8], [b3], []]), x ∈ fl [[b18], [b8], [b3], []] := pick_sub [some 0, some 1, some 2, some 3] _ rfl
          have hsb : ∀ x ∈ fl ([] ++ [(fl [[b18], [b8], [b3], []])]), x ∈ fl [[b18], [b8], [b3], []] := fun x hx => hsb0 x (fl_unfold x hx)
          have hcall := gen_Lists_w a0_16 c0_16 x15.1.1 (some ⟨b40, 0, none⟩) 1 ([[2, 0, 3, 1]] : List (List Int)) _ w40 (fl [[b18], [b8], [b3], []]) (MS.fold (P := []) hpk) (hf16_1.sub hsb) (hs40.sub hsb) hx
          refine x_call 20 #[] #[] [.slice a0_16 (x15.1.1).length c0_16, .slice (some ⟨b40, 0, none⟩) (([[2, 0, 3, 1]] : List (List Int))).length 1] _ rfl rfl rfl rfl hcall ?_
          rintro v w43 ⟨rfl, he43⟩
          clear hcall hx
          refine ⟨.inl rfl, ?_⟩
          have hst := Stp.ext (ls := [[b18], [b8], [b3], []]) he43
          replace hs1 := hs1.step hst
          replace hb3 := he43.box hb3 (fun h => by cases h)
          replace hs6 := hs6.step hst
          replace hb8 := he43.box hb8 (fun h => by cases h)
          replace hf12_1 := hf12_1.step hst
          replace hf12_2 := hf12_2.step hst
          replace hf16_1 := hf16_1.step hst
          replace hb18 := he43.box hb18 (fun h => by cases h)
          replace hf22_1 := hf22_1.step hst
          replace hs24 := hs24.step hst
          replace hs26 := hs26.step hst
          replace hs28 := hs28.step hst
          replace hs32 := hs32.step hst
          replace hs34 := hs34.step hst
          replace hs38 := hs38.step hst
          replace hs40 := hs40.step hst
          replace hms := hms.ev he43
          replace hev := hev.ext he43
          clear hpk hsb hsb0
          refine x_pure 2 [(62, .bool x42), (63, .bool x42)] _ _ _ (by kernel_rfl) ?_
          refine x_split 63 x42 rfl (fun hb => ?_) (fun hb => ?_)
          · replace h := ite_t hb h
            refine x_fieldAddr (xv := .pointer (some ⟨b18, 0, none⟩)) (.pointer (some ⟨b18, 1, none⟩)) rfl rfl rfl (reads_field tfld34_1 _ _) ?_
            refine x_load (xv := .pointer (some ⟨b18, 1, none⟩)) (.int .i64 x15.1.2) rfl rfl rfl (reads_box tcell3 hb18 (fun h => by cases h) 1 _ rfl) ?_
            refine x_pure 3 [(66, .bool (x15.1.2 == 7)), (67, .bool (x15.1.2 == 7)), (68, .bool (x15.1.2 == 7))] _ _ _ (by kernel_rfl) ?_
            refine x_split 68 (x15.1.2 == 7) rfl (fun hb => ?_) (fun hb => ?_)
            · replace h := ite_t hb h
              refine x_pure 4 [(69, .int .i64 x21.2), (70, .bool (x21.2 == 0)), (71, .bool (x21.2 == 0)), (72, .bool (x21.2 == 0))] _ _ _ (by kernel_rfl) ?_
              refine x_split 72 (x21.2 == 0) rfl (fun hb => ?_) (fun hb => ?_)
              · replace h := ite_t hb h
                refine x_pure 1 [(73, .slice a0_22 (x21.1).length c0_22)] _ _ _ (by kernel_rfl) ?_
                refine x_buildSlice (vs := [(0, .int .i64 160), (1, .int .i64 80), (2, .int .i64 320)]) #[.int .i64 160, .int .i64 80, .int .i64 320] 3 rfl rfl rfl (by kernel_rfl) (fun b44 w44 hq44 hb44 he44 _ => ?_)
                refine ⟨.inl rfl, ?_⟩
                have hms0 := hms
                have hst := Stp.ext (ls := [[b18], [b8], [b3], []]) he44
                replace hs1 := hs1.step hst
                replace hb3 := he44.box hb3 (fun h => by cases h)
                replace hs6 := hs6.step hst
                replace hb8 := he44.box hb8 (fun h => by cases h)
                replace hf12_1 := hf12_1.step hst
                replace hf12_2 := hf12_2.step hst
                replace hf16_1 := hf16_1.step hst
                replace hb18 := he44.box hb18 (fun h => by cases h)
                replace hf22_1 := hf22_1.step hst
                replace hs24 := hs24.step hst
                replace hs26 := hs26.step hst
                replace hs28 := hs28.step hst
                replace hs32 := hs32.step hst
                replace hs34 := hs34.step hst
                replace hs38 := hs38.step hst
                replace hs40 := hs40.step hst
                replace hms := hms.ev he44
                replace hev := hev.ext he44
                have hs44 : SlR (eInt .i64) w44 (fl [[b18], [b8], [b3], []]) (some ⟨b44, 0, none⟩) 3 ([160, 80, 320]) := ro_of_box hms0 hq44 hb44 rfl rfl (cells_at (cs := [.int .i64 160, .int .i64 80, .int .i64 320]) (CellsOf.cons (c := [.int .i64 160]) rfl (CellsOf.cons (c := [.int .i64 80]) rfl (CellsOf.cons (c := [.int .i64 320]) rfl CellsOf.nil))))
                clear hb44 hms0
                obtain ⟨x46, hx, h⟩ := bind_some h
                have hpk : MS w44 ([] ++ [[b18], [b8], [b3], []]) := hms.pick [some 0, some 1, some 2, some 3] _ rfl
                have hsb0 : ∀ x ∈ fl ([] ++ [[b18], [b8], [b3], []]), x ∈ fl [[b18], [b8], [b3], []] := pick_sub [some 0, some 1, some 2, some 3] _ rfl
                have hsb : ∀ x ∈ fl ([] ++ [(fl [[b18], [b8], [b3], []])]), x ∈ fl [[b18], [b8], [b3], []] := fun x hx => hsb0 x (fl_unfold x hx)
                have hcall := gen_Ints_w a0_22 c0_22 x21.1 (some ⟨b44, 0, none⟩) 3 ([160, 80, 320]) _ w44 (fl [[b18], [b8], [b3], []]) (MS.fold (P := []) hpk) (hf22_1.sub hsb) (hs44.sub hsb) hx
                refine x_call 19 #[] #[] [.slice a0_22 (x21.1).length c0_22, .slice (some ⟨b44, 0, none⟩) ([160, 80, 320]).length 3] _ rfl rfl rfl rfl hcall ?_
                rintro v w47 ⟨rfl, he47⟩
                clear hcall hx
                refine ⟨.inl rfl, ?_⟩
                have hst := Stp.ext (ls := [[b18], [b8], [b3], []]) he47
                replace hs1 := hs1.step hst
                replace hb3 := he47.box hb3 (fun h => by cases h)
                replace hs6 := hs6.step hst
                replace hb8 := he47.box hb8 (fun h => by cases h)
                replace hf12_1 := hf12_1.step hst
                replace hf12_2 := hf12_2.step hst
                replace hf16_1 := hf16_1.step hst
                replace hb18 := he47.box hb18 (fun h => by cases h)
                replace hf22_1 := hf22_1.step hst
                replace hs24 := hs24.step hst
                replace hs26 := hs26.step hst
                replace hs28 := hs28.step hst
                replace hs32 := hs32.step hst
                replace hs34 := hs34.step hst
                replace hs38 := hs38.step hst
                replace hs40 := hs40.step hst
                replace hs44 := hs44.step hst
                replace hms := hms.ev he47
                replace hev := hev.ext he47
                clear hpk hsb hsb0
                refine x_pure 2 [(76, .bool x46), (0, .bool x46)] _ _ _ (by kernel_rfl) ?_
                refine x_end rfl ?_
                refine k_then ?_
                refine c_norm [(0, .bool x46)] ⟨rfl, trivial⟩ (fun J => ?_)
                refine c_ret ?_
                refine r_ret (r_vals [.bool x46] ⟨rfl, trivial⟩ ?_)
                have hx := some_inj h
                subst hx
                exact ⟨rfl, hev⟩
              · replace h := ite_f hb h
                refine x_pure 5 [(73, undef), (74, undef), (75, undef), (76, .bool false), (0, .bool false)] _ _ _ (by kernel_rfl) ?_
                refine x_end rfl ?_
                refine k_then ?_
                refine c_norm [(0, .bool false)] ⟨rfl, trivial⟩ (fun J => ?_)
                refine c_ret ?_
                refine r_ret (r_vals [.bool false] ⟨rfl, trivial⟩ ?_)
                have hx := some_inj h
                subst hx
                exact ⟨rfl, hev⟩
            · replace h := ite_f hb h
              refine x_pure 9 [(69, undef), (70, undef), (71, .bool false), (72, .bool false), (73, undef), (74, undef), (75, undef), (76, .bool false), (0, .bool false)] _ _ _ (by kernel_rfl) ?_
              refine x_end rfl ?_
              refine k_then ?_
              refine c_norm [(0, .bool false)] ⟨rfl, trivial⟩ (fun J => ?_)
              refine c_ret ?_
              refine r_ret (r_vals [.bool false] ⟨rfl, trivial⟩ ?_)
              have hx := some_inj h
              subst hx
              exact ⟨rfl, hev⟩
          · replace h := ite_f hb h
            refine x_pure 14 [(64, undef), (65, undef), (66, undef), (67, .bool false), (68, .bool false), (69, undef), (70, undef), (71, .bool false), (72, .bool false), (73, undef), (74, undef), (75, undef), (76, .bool false), (0, .bool false)] _ _ _ (by kernel_rfl) ?_
            refine x_end rfl ?_
            refine k_then ?_
            refine c_norm [(0, .bool false)] ⟨rfl, trivial⟩ (fun J => ?_)
            refine c_ret ?_
            refine r_ret (r_vals [.bool false] ⟨rfl, trivial⟩ ?_)
            have hx := some_inj h
            subst hx
            exact ⟨rfl, hev⟩
        · replace h := ite_f hb h
          refine x_pure 21 [(57, undef), (58, undef), (59, undef), (60, undef), (61, undef), (62, .bool false), (63, .bool false), (64, undef), (65, undef), (66, undef), (67, .bool false), (68, .bool false), (69, undef), (70, undef), (71, .bool false), (72, .bool false), (73, undef), (74, undef), (75, undef), (76, .bool false), (0, .bool false)] _ _ _ (by kernel_rfl) ?_
          refine x_end rfl ?_
          refine k_then ?_
          refine c_norm [(0, .bool false)] ⟨rfl, trivial⟩ (fun J => ?_)
          refine c_ret ?_
          refine r_ret (r_vals [.bool false] ⟨rfl, trivial⟩ ?_)
          have hx := some_inj h
          subst hx
          exact ⟨rfl, hev⟩
      · replace h := ite_f hb h
        refine x_pure 25 [(53, undef), (54, undef), (55, .bool false), (56, .bool false), (57, undef), (58, undef), (59, undef), (60, undef), (61, undef), (62, .bool false), (63, .bool false), (64, undef), (65, undef), (66, undef), (67, .bool false), (68, .bool false), (69, undef), (70, undef), (71, .bool false), (72, .bool false), (73, undef), (74, undef), (75, undef), (76, .bool false), (0, .bool false)] _ _ _ (by kernel_rfl) ?_
        refine x_end rfl ?_
        refine k_then ?_
        refine c_norm [(0, .bool false)] ⟨rfl, trivial⟩ (fun J => ?_)
        refine c_ret ?_
        refine r_ret (r_vals [.bool false] ⟨rfl, trivial⟩ ?_)
        have hx := some_inj h
        subst hx
        exact ⟨rfl, hev⟩
    · replace h := ite_f hb h
      refine x_pure 31 [(47, undef), (48, undef), (49, undef), (50, undef), (51, .bool false), (52, .bool false), (53, undef), (54, undef), (55, .bool false), (56, .bool false), (57, undef), (58, undef), (59, undef), (60, undef), (61, undef), (62, .bool false), (63, .bool false), (64, undef), (65, undef), (66, undef), (67, .bool false), (68, .bool false), (69, undef), (70, undef), (71, .bool false), (72, .bool false), (73, undef), (74, undef), (75, undef), (76, .bool false), (0, .bool false)] _ _ _ (by kernel_rfl) ?_
      refine x_end rfl ?_
      refine k_then ?_
      refine c_norm [(0, .bool false)] ⟨rfl, trivial⟩ (fun J => ?_)
      refine c_ret ?_
      refine r_ret (r_vals [.bool false] ⟨rfl, trivial⟩ ?_)
      have hx := some_inj h
      subst hx
      exact ⟨rfl, hev⟩
  · replace h := ite_f hb h
    refine x_pure 38 [(40, undef), (41, undef), (42, undef), (43, undef), (44, undef), (45, .bool false), (46, .bool false), (47, undef), (48, undef), (49, undef), (50, undef), (51, .bool false), (52, .bool false), (53, undef), (54, undef), (55, .bool false), (56, .bool false), (57, undef), (58, undef), (59, undef), (60, undef), (61, undef), (62, .bool false), (63, .bool false), (64, undef), (65, undef), (66, undef), (67, .bool false), (68, .bool false), (69, undef), (70, undef), (71, .bool false), (72, .bool false), (73, undef), (74, undef), (75, undef), (76, .bool false), (0, .bool false)] _ _ _ (by kernel_rfl) ?_
    refine x_end rfl ?_
    refine k_then ?_
    refine c_norm [(0, .bool false)] ⟨rfl, trivial⟩ (fun J => ?_)
    refine c_ret ?_
    refine r_ret (r_vals [.bool false] ⟨rfl, trivial⟩ ?_)
    have hx := some_inj h
    subst hx
    exact ⟨rfl, hev⟩
def law14_exact (j_0_Items : List (Int × Int × Int × Int)) (j_0_Weight : Int) (p_1_Steps : Int) (p_1_Codes : List Int) (time_2 : Int) : Option Bool :=
((rollin_Contents j_0_Items j_0_Weight p_1_Steps p_1_Codes time_2).bind fun x7 =>
((r14_Contents j_0_Items j_0_Weight p_1_Steps p_1_Codes time_2).bind fun x11 =>
((rollin_Valid j_0_Items j_0_Weight p_1_Steps p_1_Codes).bind fun x16 =>
((r14_Valid j_0_Items j_0_Weight p_1_Steps p_1_Codes).bind fun x18 =>
(if (x16 != x18) = true then
some false
else
((gen_Lists x7.1 x11.1).bind fun x20 =>
(if (!x20) = true then
some false
else
((gen_Lists x7.2.1 x11.2.1).bind fun x22 =>
(if (!x22) = true then
some false
else
(if (x7.2.2 != x11.2.2) = true then
some false
else
((rollin_Run j_0_Items j_0_Weight p_1_Steps p_1_Codes).bind fun x24 =>
((r14_Run j_0_Items j_0_Weight p_1_Steps p_1_Codes).bind fun x30 =>
((rollin_Loads j_0_Items j_0_Weight p_1_Steps p_1_Codes).bind fun x36 =>
((r14_Loads j_0_Items j_0_Weight p_1_Steps p_1_Codes).bind fun x39 =>
((gen_Lists x24.1.1 x30.1.1).bind fun x43 =>
(if (!x43) = true then
some false
else
(if (x24.1.2 != x30.1.2) = true then
some false
else
(if (x24.2 != x30.2) = true then
some false
else
((gen_Ints x36.1 x39.1).bind fun x45 =>
(if (!x45) = true then
some false
else
(if (x36.2 != x39.2) = true then
some false
else
((rollin_Pushes j_0_Items j_0_Weight p_1_Steps p_1_Codes).bind fun x47 =>
((r14_Pushes j_0_Items j_0_Weight p_1_Steps p_1_Codes).bind fun x49 =>
(if (x47.1 == x49.1) = true then
some (x47.2 == x49.2)
else
some false))))))))))))))))))))))))

theorem law14_exact_w (a_j_0_Items : Option Addr) (c_j_0_Items : Nat) (j_0_Items : List (Int × Int × Int × Int)) (j_0_Weight : Int) (p_1_Steps : Int) (a_p_1_Codes : Option Addr) (c_p_1_Codes : Nat) (p_1_Codes : List Int) (time_2 : Int) (r : Bool) (w : World) (M : List Nat) (hms : MS w [M]) (hs_j_0_Items : SlR (eProd (eInt .i64) (eProd (eInt .i64) (eProd (eInt .i64) (eInt .i64)))) w (fl [M]) a_j_0_Items c_j_0_Items j_0_Items) (hs_p_1_Codes : SlR (eInt .i64) w (fl [M]) a_p_1_Codes c_p_1_Codes p_1_Codes) (h : law14_exact j_0_Items j_0_Weight p_1_Steps p_1_Codes time_2 = some r) : CallVC Try.prog 25 [.agg #[.slice a_j_0_Items (j_0_Items).length c_j_0_Items, .int .i64 j_0_Weight], .agg #[.int .i64 p_1_Steps, .slice a_p_1_Codes (p_1_Codes).length c_p_1_Codes], .int .i64 time_2] w fun v w' => v = .bool r ∧ Ev [] w w' := by
  refine calls_vc hmx Try.func25 (by kernel_rfl) rfl (rs := [.tmp 6]) rfl (by kernel_rfl) (args := [.agg #[.slice a_j_0_Items (j_0_Items).length c_j_0_Items, .int .i64 j_0_Weight], .agg #[.int .i64 p_1_Steps, .slice a_p_1_Codes (p_1_Codes).length c_p_1_Codes], .int .i64 time_2]) rfl ?_
  have hev : Ev [] w w := Ev.refl _ _
  have hfr : FR w.heap.size [] := FR.nil _
  refine c_seq ?_
  refine c_plain ?_
  refine x_box (xv := .agg #[.slice a_j_0_Items (j_0_Items).length c_j_0_Items, .int .i64 j_0_Weight]) rfl rfl rfl (fun b3 w3 hq3 hb3 he3 _ => ?_)
  replace hb3 : w3.heap[b3]? = some (.cells #[.slice a_j_0_Items (j_0_Items).length c_j_0_Items, .int .i64 j_0_Weight] 27 (0, 0)) := hb3
  refine ⟨.inl rfl, ?_⟩
  have hst := Stp.box (ls := [M]) he3 hq3
  replace hs_j_0_Items := hs_j_0_Items.step hst
  replace hs_p_1_Codes := hs_p_1_Codes.step hst
  replace hms := hms.box he3 hq3 hb3
  replace hfr := hfr.box hev.size hq3
  replace hev := hev.ext he3
  refine x_box (xv := .agg #[.int .i64 p_1_Steps, .slice a_p_1_Codes (p_1_Codes).length c_p_1_Codes]) rfl rfl rfl (fun b5 w5 hq5 hb5 he5 _ => ?_)
  replace hb5 : w5.heap[b5]? = some (.cells #[.int .i64 p_1_Steps, .slice a_p_1_Codes (p_1_Codes).length c_p_1_Codes] 30 (0, 0)) := hb5
  refine ⟨.inl rfl, ?_⟩
  have hst := Stp.box (ls := [[b3], M]) he5 hq5
  replace hs_j_0_Items := hs_j_0_Items.step hst
  replace hs_p_1_Codes := hs_p_1_Codes.step hst
  replace hb3 := he5.box hb3 (fun h => by cases h)
  replace hms := hms.box he5 hq5 hb5
  replace hfr := hfr.box hev.size hq5
  replace hev := hev.ext he5
  refine x_pure 1 [(6, .bool false)] _ _ _ (by kernel_rfl) ?_
  refine x_end rfl ?_
  refine k_then ?_
  refine c_norm [(2, .int .i64 time_2), (3, .pointer (some ⟨b3, 0, none⟩)), (4, .pointer (some ⟨b5, 0, none⟩))] ⟨rfl, rfl, rfl, trivial⟩ (fun J => ?_)
  refine c_seq ?_
  refine c_plain ?_
  refine x_load (xv := .pointer (some ⟨b3, 0, none⟩)) (.agg #[.slice a_j_0_Items (j_0_Items).length c_j_0_Items, .int .i64 j_0_Weight]) rfl rfl rfl (reads_boxagg 0 [.slice a_j_0_Items (j_0_Items).length c_j_0_Items, .int .i64 j_0_Weight] tagg27 hb3 (fun h => by cases h) rfl) ?_
  refine x_load (xv := .pointer (some ⟨b5, 0, none⟩)) (.agg #[.int .i64 p_1_Steps, .slice a_p_1_Codes (p_1_Codes).length c_p_1_Codes]) rfl rfl rfl (reads_boxagg 0 [.int .i64 p_1_Steps, .slice a_p_1_Codes (p_1_Codes).length c_p_1_Codes] tagg30 hb5 (fun h => by cases h) rfl) ?_
  refine x_pure 1 [(24, .int .i64 time_2)] _ _ _ (by kernel_rfl) ?_
  obtain ⟨x7, hx, h⟩ := bind_some h
  have hpk : MS w5 ([] ++ [[b5], [b3], M]) := hms.pick [some 0, some 1, some 2] _ rfl
  have hsb0 : ∀ x ∈ fl ([] ++ [[b5], [b3], M]), x ∈ fl [[b5], [b3], M] := pick_sub [some 0, some 1, some 2] _ rfl
  have hsb : ∀ x ∈ fl ([] ++ [(fl [[b5], [b3], M])]), x ∈ fl [[b5], [b3], M] := fun x hx => hsb0 x (fl_unfold x hx)
  have hcall := rollin_Contents_w a_j_0_Items c_j_0_Items j_0_Items j_0_Weight p_1_Steps a_p_1_Codes c_p_1_Codes p_1_Codes time_2 _ w5 (fl [[b5], [b3], M]) (MS.fold (P := []) hpk) (hs_j_0_Items.sub hsb) (hs_p_1_Codes.sub hsb) hx
  refine x_call 16 #[] #[] [.agg #[.slice a_j_0_Items (j_0_Items).length c_j_0_Items, .int .i64 j_0_Weight], .agg #[.int .i64 p_1_Steps, .slice a_p_1_Codes (p_1_Codes).length c_p_1_Codes], .int .i64 time_2] _ rfl rfl rfl rfl hcall ?_
  rintro v w8 ⟨a0_8, c0_8, B2_8, a3_8, c3_8, B5_8, rfl, he8, hmn8, hfn8, hf8_1, hf8_2⟩
  clear hcall hx
  refine ⟨.inl rfl, ?_⟩
  have hpk2 : MS w5 ([] ++ [[b5], [b3], M]) := hms.pick [some 0, some 1, some 2] _ rfl
  have hsb2 : ∀ x ∈ fl ([] ++ [[b5], [b3], M]), x ∈ fl [[b5], [b3], M] := pick_sub [some 0, some 1, some 2] _ rfl
  have hst0 := Stp.call (LS := [[b5], [b3], M]) (res := [B2_8, B5_8]) (par := []) (R := [[b5], [b3], M]) he8 (fun b hb => hsb2 b (fl_left' (P := []) b hb)) hfn8 (NP.init _ _) (fun x hx => hsb2 x (fl_right' (P := []) x hx))
  have hsn : ∀ x ∈ fl [B2_8, B5_8, [b5], [b3], M], x ∈ fl ([B2_8, B5_8] ++ ([] ++ [[b5], [b3], M])) := pick_sub [some 0, some 1, some 2, some 3, some 4] _ rfl
  have hst := hst0.res hsn
  replace hs_j_0_Items := hs_j_0_Items.step hst
  replace hs_p_1_Codes := hs_p_1_Codes.step hst
  replace hb3 := he8.box hb3 ((MS.outs (P := []) hpk2 1 rfl) _ (List.mem_singleton.2 rfl))
  replace hb5 := he8.box hb5 ((MS.outs (P := []) hpk2 0 rfl) _ (List.mem_singleton.2 rfl))
  replace hms : MS w8 [B2_8, B5_8, [b5], [b3], M] := (MS.call (P := []) (R := [[b5], [b3], M]) (res := [B2_8, B5_8]) (par := []) hpk2 he8 hmn8 hfn8 (NP.init _ _)).pick [some 0, some 1, some 2, some 3, some 4] _ rfl
  have hfr2 : FR w.heap.size [B2_8, B5_8, [b5], [b3]] := (FR.cons (fun b hb => Nat.le_trans hev.size (hfn8.at 0 rfl b hb)) (FR.cons (fun b hb => Nat.le_trans hev.size (hfn8.at 1 rfl b hb)) (FR.cons (hfr.at 0 rfl) (FR.cons (hfr.at 1 rfl) (FR.nil _)))))
  replace hev := hev.ext he8
  replace hfr := hfr2
  clear hfr2
  clear hpk hsb hsb0 hpk2 hsb2 hst0 hsn hst
  have hpk : MS w8 [B5_8, [b5], [b3], M] := hms.pick [some 1, some 2, some 3, some 4] _ rfl
  have hsu : ∀ x ∈ fl [B5_8, [b5], [b3], M], x ∈ fl [B2_8, B5_8, [b5], [b3], M] := pick_sub [some 1, some 2, some 3, some 4] _ rfl
  replace hs_j_0_Items := hs_j_0_Items.sub hsu
  replace hs_p_1_Codes := hs_p_1_Codes.sub hsu
  replace hf8_1 := hf8_1.ro (plain_int _) (pick_out hms 0 rfl [some 1, some 2, some 3, some 4] [B5_8, [b5], [b3], M] rfl rfl)
  replace hms := hpk
  replace hfr : FR w.heap.size [B5_8, [b5], [b3]] := hfr.pick [some 1, some 2, some 3] _ rfl
  clear hpk hsu
  have hpk : MS w8 [[b5], [b3], M] := hms.pick [some 1, some 2, some 3] _ rfl
  have hsu : ∀ x ∈ fl [[b5], [b3], M], x ∈ fl [B5_8, [b5], [b3], M] := pick_sub [some 1, some 2, some 3] _ rfl
  replace hs_j_0_Items := hs_j_0_Items.sub hsu
  replace hs_p_1_Codes := hs_p_1_Codes.sub hsu
  replace hf8_1 := hf8_1.sub hsu
  replace hf8_2 := hf8_2.ro (plain_int _) (pick_out hms 0 rfl [some 1, some 2, some 3] [[b5], [b3], M] rfl rfl)
  replace hms := hpk
  replace hfr : FR w.heap.size [[b5], [b3]] := hfr.pick [some 1, some 2] _ rfl
  clear hpk hsu
  refine x_pure 7 [(21, .tuple #[.slice a0_8 (x7.1).length c0_8, .slice a3_8 (x7.2.1).length c3_8, .int .i64 x7.2.2]), (26, .slice a0_8 (x7.1).length c0_8), (27, .slice a3_8 (x7.2.1).length c3_8), (28, .int .i64 x7.2.2), (7, .slice a0_8 (x7.1).length c0_8), (8, .slice a3_8 (x7.2.1).length c3_8), (9, .int .i64 x7.2.2)] _ _ _ (by kernel_rfl) ?_
  refine x_end rfl ?_
  refine k_then ?_
  refine c_norm [(2, .int .i64 time_2), (3, .pointer (some ⟨b3, 0, none⟩)), (4, .pointer (some ⟨b5, 0, none⟩)), (7, .slice a0_8 (x7.1).length c0_8), (8, .slice a3_8 (x7.2.1).length c3_8), (9, .int .i64 x7.2.2)] ⟨rfl, rfl, rfl, rfl, rfl, rfl, trivial⟩ (fun J => ?_)
  refine c_seq ?_
  refine c_plain ?_
  refine x_load (xv := .pointer (some ⟨b3, 0, none⟩)) (.agg #[.slice a_j_0_Items (j_0_Items).length c_j_0_Items, .int .i64 j_0_Weight]) rfl rfl rfl (reads_boxagg 0 [.slice a_j_0_Items (j_0_Items).length c_j_0_Items, .int .i64 j_0_Weight] tagg27 hb3 (fun h => by cases h) rfl) ?_
  refine x_load (xv := .pointer (some ⟨b5, 0, none⟩)) (.agg #[.int .i64 p_1_Steps, .slice a_p_1_Codes (p_1_Codes).length c_p_1_Codes]) rfl rfl rfl (reads_boxagg 0 [.int .i64 p_1_Steps, .slice a_p_1_Codes (p_1_Codes).length c_p_1_Codes] tagg30 hb5 (fun h => by cases h) rfl) ?_
  refine x_pure 1 [(32, .int .i64 time_2)] _ _ _ (by kernel_rfl) ?_
  obtain ⟨x11, hx, h⟩ := bind_some h
  have hpk : MS w8 ([] ++ [[b5], [b3], M]) := hms.pick [some 0, some 1, some 2] _ rfl
  have hsb0 : ∀ x ∈ fl ([] ++ [[b5], [b3], M]), x ∈ fl [[b5], [b3], M] := pick_sub [some 0, some 1, some 2] _ rfl
  have hsb : ∀ x ∈ fl ([] ++ [(fl [[b5], [b3], M])]), x ∈ fl [[b5], [b3], M] := fun x hx => hsb0 x (fl_unfold x hx)
  have hcall := r14_Contents_w a_j_0_Items c_j_0_Items j_0_Items j_0_Weight p_1_Steps a_p_1_Codes c_p_1_Codes p_1_Codes time_2 _ w8 (fl [[b5], [b3], M]) (MS.fold (P := []) hpk) (hs_j_0_Items.sub hsb) (hs_p_1_Codes.sub hsb) hx
  refine x_call 36 #[] #[] [.agg #[.slice a_j_0_Items (j_0_Items).length c_j_0_Items, .int .i64 j_0_Weight], .agg #[.int .i64 p_1_Steps, .slice a_p_1_Codes (p_1_Codes).length c_p_1_Codes], .int .i64 time_2] _ rfl rfl rfl rfl hcall ?_
  rintro v w12 ⟨a0_12, c0_12, B2_12, a3_12, c3_12, B5_12, rfl, he12, hmn12, hfn12, hf12_1, hf12_2⟩
  clear hcall hx
  refine ⟨.inl rfl, ?_⟩
  have hpk2 : MS w8 ([] ++ [[b5], [b3], M]) := hms.pick [some 0, some 1, some 2] _ rfl
  have hsb2 : ∀ x ∈ fl ([] ++ [[b5], [b3], M]), x ∈ fl [[b5], [b3], M] := pick_sub [some 0, some 1, some 2] _ rfl
  have hst0 := Stp.call (LS := [[b5], [b3], M]) (res := [B2_12, B5_12]) (par := []) (R := [[b5], [b3], M]) he12 (fun b hb => hsb2 b (fl_left' (P := []) b hb)) hfn12 (NP.init _ _) (fun x hx => hsb2 x (fl_right' (P := []) x hx))
  have hsn : ∀ x ∈ fl [B2_12, B5_12, [b5], [b3], M], x ∈ fl ([B2_12, B5_12] ++ ([] ++ [[b5], [b3], M])) := pick_sub [some 0, some 1, some 2, some 3, some 4] _ rfl
  have hst := hst0.res hsn
  replace hs_j_0_Items := hs_j_0_Items.step hst
  replace hs_p_1_Codes := hs_p_1_Codes.step hst
  replace hb3 := he12.box hb3 ((MS.outs (P := []) hpk2 1 rfl) _ (List.mem_singleton.2 rfl))
  replace hb5 := he12.box hb5 ((MS.outs (P := []) hpk2 0 rfl) _ (List.mem_singleton.2 rfl))
  replace hf8_1 := hf8_1.step hst
  replace hf8_2 := hf8_2.step hst
  replace hms : MS w12 [B2_12, B5_12, [b5], [b3], M] := (MS.call (P := []) (R := [[b5], [b3], M]) (res := [B2_12, B5_12]) (par := []) hpk2 he12 hmn12 hfn12 (NP.init _ _)).pick [some 0, some 1, some 2, some 3, some 4] _ rfl
  have hfr2 : FR w.heap.size [B2_12, B5_12, [b5], [b3]] := (FR.cons (fun b hb => Nat.le_trans hev.size (hfn12.at 0 rfl b hb)) (FR.cons (fun b hb => Nat.le_trans hev.size (hfn12.at 1 rfl b hb)) (FR.cons (hfr.at 0 rfl) (FR.cons (hfr.at 1 rfl) (FR.nil _)))))
  replace hev := hev.ext he12
  replace hfr := hfr2
  clear hfr2
  clear hpk hsb hsb0 hpk2 hsb2 hst0 hsn hst
  have hpk : MS w12 [B5_12, [b5], [b3], M] := hms.pick [some 1, some 2, some 3, some 4] _ rfl
  have hsu : ∀ x ∈ fl [B5_12, [b5], [b3], M], x ∈ fl [B2_12, B5_12, [b5], [b3], M] := pick_sub [some 1, some 2, some 3, some 4] _ rfl
  replace hs_j_0_Items := hs_j_0_Items.sub hsu
  replace hs_p_1_Codes := hs_p_1_Codes.sub hsu
  replace hf8_1 := hf8_1.sub hsu
  replace hf8_2 := hf8_2.sub hsu
  replace hf12_1 := hf12_1.ro (plain_int _) (pick_out hms 0 rfl [some 1, some 2, some 3, some 4] [B5_12, [b5], [b3], M] rfl rfl)
  replace hms := hpk
  replace hfr : FR w.heap.size [B5_12, [b5], [b3]] := hfr.pick [some 1, some 2, some 3] _ rfl
  clear hpk hsu
  have hpk : MS w12 [[b5], [b3], M] := hms.pick [some 1, some 2, some 3] _ rfl
  have hsu : ∀ x ∈ fl [[b5], [b3], M], x ∈ fl [B5_12, [b5], [b3], M] := pick_sub [some 1, some 2, some 3] _ rfl
  replace hs_j_0_Items := hs_j_0_Items.sub hsu
  replace hs_p_1_Codes := hs_p_1_Codes.sub hsu
  replace hf8_1 := hf8_1.sub hsu
  replace hf8_2 := hf8_2.sub hsu
  replace hf12_1 := hf12_1.sub hsu
  replace hf12_2 := hf12_2.ro (plain_int _) (pick_out hms 0 rfl [some 1, some 2, some 3] [[b5], [b3], M] rfl rfl)
  replace hms := hpk
  replace hfr : FR w.heap.size [[b5], [b3]] := hfr.pick [some 1, some 2] _ rfl
  clear hpk hsu
  refine x_pure 7 [(29, .tuple #[.slice a0_12 (x11.1).length c0_12, .slice a3_12 (x11.2.1).length c3_12, .int .i64 x11.2.2]), (34, .slice a0_12 (x11.1).length c0_12), (35, .slice a3_12 (x11.2.1).length c3_12), (36, .int .i64 x11.2.2), (10, .slice a0_12 (x11.1).length c0_12), (11, .slice a3_12 (x11.2.1).length c3_12), (12, .int .i64 x11.2.2)] _ _ _ (by kernel_rfl) ?_
  refine x_end rfl ?_
  refine k_then ?_
  refine c_norm [(3, .pointer (some ⟨b3, 0, none⟩)), (4, .pointer (some ⟨b5, 0, none⟩)), (7, .slice a0_8 (x7.1).length c0_8), (8, .slice a3_8 (x7.2.1).length c3_8), (9, .int .i64 x7.2.2), (10, .slice a0_12 (x11.1).length c0_12), (11, .slice a3_12 (x11.2.1).length c3_12), (12, .int .i64 x11.2.2)] ⟨rfl, rfl, rfl, rfl, rfl, rfl, rfl, rfl, trivial⟩ (fun J => ?_)
  refine c_seq ?_
  refine c_seq ?_
  refine c_drawn [] [(0, false), (1, false), (3, false), (4, false), (2, false), (5, false), (6, false), (7, false), (8, false), (9, false), (10, false), (11, false), (12, false), (13, false), (14, false), (15, false), (16, false), (17, false), (18, false), (19, false), (20, false), (21, false), (22, false), (23, false)] _ (by kernel_rfl) rfl ?_
  have hst := Stp.ext (ls := [[b5], [b3], M]) (Ev.drew w12)
  replace hs_j_0_Items := hs_j_0_Items.step hst
  replace hs_p_1_Codes := hs_p_1_Codes.step hst
  replace hb3 := (Ev.drew w12).box hb3 (fun h => by cases h)
  replace hb5 := (Ev.drew w12).box hb5 (fun h => by cases h)
  replace hf8_1 := hf8_1.step hst
  replace hf8_2 := hf8_2.step hst
  replace hf12_1 := hf12_1.step hst
  replace hf12_2 := hf12_2.step hst
  replace hms := hms.ev (Ev.drew w12)
  replace hev := hev.ext (Ev.drew w12)
  refine x_load (xv := .pointer (some ⟨b3, 0, none⟩)) (.agg #[.slice a_j_0_Items (j_0_Items).length c_j_0_Items, .int .i64 j_0_Weight]) rfl rfl rfl (reads_boxagg 0 [.slice a_j_0_Items (j_0_Items).length c_j_0_Items, .int .i64 j_0_Weight] tagg27 hb3 (fun h => by cases h) rfl) ?_
  refine x_load (xv := .pointer (some ⟨b5, 0, none⟩)) (.agg #[.int .i64 p_1_Steps, .slice a_p_1_Codes (p_1_Codes).length c_p_1_Codes]) rfl rfl rfl (reads_boxagg 0 [.int .i64 p_1_Steps, .slice a_p_1_Codes (p_1_Codes).length c_p_1_Codes] tagg30 hb5 (fun h => by cases h) rfl) ?_
  refine x_load (xv := .pointer (some ⟨b3, 0, none⟩)) (.agg #[.slice a_j_0_Items (j_0_Items).length c_j_0_Items, .int .i64 j_0_Weight]) rfl rfl rfl (reads_boxagg 0 [.slice a_j_0_Items (j_0_Items).length c_j_0_Items, .int .i64 j_0_Weight] tagg27 hb3 (fun h => by cases h) rfl) ?_
  refine x_load (xv := .pointer (some ⟨b5, 0, none⟩)) (.agg #[.int .i64 p_1_Steps, .slice a_p_1_Codes (p_1_Codes).length c_p_1_Codes]) rfl rfl rfl (reads_boxagg 0 [.int .i64 p_1_Steps, .slice a_p_1_Codes (p_1_Codes).length c_p_1_Codes] tagg30 hb5 (fun h => by cases h) rfl) ?_
  obtain ⟨x16, hx, h⟩ := bind_some h
  have hpk : MS (w12).drew ([] ++ [[b5], [b3], M]) := hms.pick [some 0, some 1, some 2] _ rfl
  have hsb0 : ∀ x ∈ fl ([] ++ [[b5], [b3], M]), x ∈ fl [[b5], [b3], M] := pick_sub [some 0, some 1, some 2] _ rfl
  have hsb : ∀ x ∈ fl ([] ++ [(fl [[b5], [b3], M])]), x ∈ fl [[b5], [b3], M] := fun x hx => hsb0 x (fl_unfold x hx)
  have hcall := rollin_Valid_w a_j_0_Items c_j_0_Items j_0_Items j_0_Weight p_1_Steps a_p_1_Codes c_p_1_Codes p_1_Codes _ (w12).drew (fl [[b5], [b3], M]) (MS.fold (P := []) hpk) (hs_j_0_Items.sub hsb) (hs_p_1_Codes.sub hsb) hx
  refine x_call 33 #[] #[] [.agg #[.slice a_j_0_Items (j_0_Items).length c_j_0_Items, .int .i64 j_0_Weight], .agg #[.int .i64 p_1_Steps, .slice a_p_1_Codes (p_1_Codes).length c_p_1_Codes]] _ rfl rfl rfl rfl hcall ?_
  rintro v w17 ⟨rfl, he17⟩
  clear hcall hx
  refine ⟨.inr he17, ?_⟩
  have hst := Stp.ext (ls := [[b5], [b3], M]) he17
  replace hs_j_0_Items := hs_j_0_Items.step hst
  replace hs_p_1_Codes := hs_p_1_Codes.step hst
  replace hb3 := he17.box hb3 (fun h => by cases h)
  replace hb5 := he17.box hb5 (fun h => by cases h)
  replace hf8_1 := hf8_1.step hst
  replace hf8_2 := hf8_2.step hst
  replace hf12_1 := hf12_1.step hst
  replace hf12_2 := hf12_2.step hst
  replace hms := hms.ev he17
  replace hev := hev.ext he17
  clear hpk hsb hsb0
  obtain ⟨x18, hx, h⟩ := bind_some h
  have hpk : MS w17 ([] ++ [[b5], [b3], M]) := hms.pick [some 0, some 1, some 2] _ rfl
  have hsb0 : ∀ x ∈ fl ([] ++ [[b5], [b3], M]), x ∈ fl [[b5], [b3], M] := pick_sub [some 0, some 1, some 2] _ rfl
  have hsb : ∀ x ∈ fl ([] ++ [(fl [[b5], [b3], M])]), x ∈ fl [[b5], [b3], M] := fun x hx => hsb0 x (fl_unfold x hx)
  have hcall := r14_Valid_w a_j_0_Items c_j_0_Items j_0_Items j_0_Weight p_1_Steps a_p_1_Codes c_p_1_Codes p_1_Codes _ w17 (fl [[b5], [b3], M]) (MS.fold (P := []) hpk) (hs_j_0_Items.sub hsb) (hs_p_1_Codes.sub hsb) hx
  refine x_call 37 #[] #[] [.agg #[.slice a_j_0_Items (j_0_Items).length c_j_0_Items, .int .i64 j_0_Weight], .agg #[.int .i64 p_1_Steps, .slice a_p_1_Codes (p_1_Codes).length c_p_1_Codes]] _ rfl rfl rfl rfl hcall ?_
  rintro v w19 ⟨rfl, he19⟩
  clear hcall hx
  refine ⟨.inr he19, ?_⟩
  have hst := Stp.ext (ls := [[b5], [b3], M]) he19
  replace hs_j_0_Items := hs_j_0_Items.step hst
  replace hs_p_1_Codes := hs_p_1_Codes.step hst
  replace hb3 := he19.box hb3 (fun h => by cases h)
  replace hb5 := he19.box hb5 (fun h => by cases h)
  replace hf8_1 := hf8_1.step hst
  replace hf8_2 := hf8_2.step hst
  replace hf12_1 := hf12_1.step hst
  replace hf12_2 := hf12_2.step hst
  replace hms := hms.ev he19
  replace hev := hev.ext he19
  clear hpk hsb hsb0
  refine x_pure 2 [(43, .bool (x16 != x18)), (44, .bool (x16 != x18))] _ _ _ (by kernel_rfl) ?_
  refine x_split 44 (x16 != x18) rfl (fun hb => ?_) (fun hb => ?_)
  · replace h := ite_t hb h
    refine x_pure 16 [(45, undef), (46, undef), (47, undef), (48, undef), (49, .bool true), (50, .bool true), (51, undef), (52, undef), (53, undef), (54, undef), (55, .bool true), (56, .bool true), (57, undef), (58, undef), (59, undef), (60, .bool true)] _ _ _ (by kernel_rfl) ?_
    refine x_end rfl ?_
    refine k_then ?_
    refine c_norm [(3, .pointer (some ⟨b3, 0, none⟩)), (4, .pointer (some ⟨b5, 0, none⟩)), (60, .bool true)] ⟨rfl, rfl, rfl, trivial⟩ (fun J => ?_)
    refine c_true rfl ?_
    refine c_seq ?_
    refine c_plain ?_
    refine x_pure 1 [(6, .bool false)] _ _ _ (by kernel_rfl) ?_
    refine x_end rfl ?_
    refine k_then ?_
    refine c_norm [(6, .bool false)] ⟨rfl, trivial⟩ (fun J => ?_)
    refine c_ret ?_
    refine k_then_ret ?_
    refine r_ret (r_vals [.bool false] ⟨rfl, trivial⟩ ?_)
    have hx := some_inj h
    subst hx
    have hmr : MS w19 [M] := hms.pick [some 2] _ rfl
    have hsu : ∀ x ∈ fl [M], x ∈ fl [[b5], [b3], M] := pick_sub [some 2] _ rfl
    exact ⟨rfl, hev⟩
  · replace h := ite_f hb h
    refine x_pure 2 [(45, .slice a0_8 (x7.1).length c0_8), (46, .slice a0_12 (x11.1).length c0_12)] _ _ _ (by kernel_rfl) ?_
    obtain ⟨x20, hx, h⟩ := bind_some h
    have hpk : MS w19 ([] ++ [[b5], [b3], M]) := hms.pick [some 0, some 1, some 2] _ rfl
    have hsb0 : ∀ x ∈ fl ([] ++ [[b5], [b3], M]), x ∈ fl [[b5], [b3], M] := pick_sub [some 0, some 1, some 2] _ rfl
    have hsb : ∀ x ∈ fl ([] ++ [(fl [[b5], [b3], M])]), x ∈ fl [[b5], [b3], M] := fun x hx => hsb0 x (fl_unfold x hx)
    have hcall := gen_Lists_w a0_8 c0_8 x7.1 a0_12 c0_12 x11.1 _ w19 (fl [[b5], [b3], M]) (MS.fold (P := []) hpk) (hf8_1.sub hsb) (hf12_1.sub hsb) hx
    refine x_call 20 #[] #[] [.slice a0_8 (x7.1).length c0_8, .slice a0_12 (x11.1).length c0_12] _ rfl rfl rfl rfl hcall ?_
    rintro v w21 ⟨rfl, he21⟩
    clear hcall hx
    refine ⟨.inr he21, ?_⟩
    have hst := Stp.ext (ls := [[b5], [b3], M]) he21
    replace hs_j_0_Items := hs_j_0_Items.step hst
    replace hs_p_1_Codes := hs_p_1_Codes.step hst
    replace hb3 := he21.box hb3 (fun h => by cases h)
    replace hb5 := he21.box hb5 (fun h => by cases h)
    replace hf8_1 := hf8_1.step hst
    replace hf8_2 := hf8_2.step hst
    replace hf12_1 := hf12_1.step hst
    replace hf12_2 := hf12_2.step hst
    replace hms := hms.ev he21
    replace hev := hev.ext he21
    clear hpk hsb hsb0
    refine x_pure 3 [(48, .bool (!x20)), (49, .bool (!x20)), (50, .bool (!x20))] _ _ _ (by kernel_rfl) ?_
    refine x_split 50 (!x20) rfl (fun hb => ?_) (fun hb => ?_)
    · replace h := ite_t hb h
      refine x_pure 10 [(51, undef), (52, undef), (53, undef), (54, undef), (55, .bool true), (56, .bool true), (57, undef), (58, undef), (59, undef), (60, .bool true)] _ _ _ (by kernel_rfl) ?_
      refine x_end rfl ?_
      refine k_then ?_
      refine c_norm [(3, .pointer (some ⟨b3, 0, none⟩)), (4, .pointer (some ⟨b5, 0, none⟩)), (60, .bool true)] ⟨rfl, rfl, rfl, trivial⟩ (fun J => ?_)
      refine c_true rfl ?_
      refine c_seq ?_
      refine c_plain ?_
      refine x_pure 1 [(6, .bool false)] _ _ _ (by kernel_rfl) ?_
      refine x_end rfl ?_
      refine k_then ?_
      refine c_norm [(6, .bool false)] ⟨rfl, trivial⟩ (fun J => ?_)
      refine c_ret ?_
      refine k_then_ret ?_
      refine r_ret (r_vals [.bool false] ⟨rfl, trivial⟩ ?_)
      have hx := some_inj h
      subst hx
      have hmr : MS w21 [M] := hms.pick [some 2] _ rfl
      have hsu : ∀ x ∈ fl [M], x ∈ fl [[b5], [b3], M] := pick_sub [some 2] _ rfl
      exact ⟨rfl, hev⟩
    · replace h := ite_f hb h
      refine x_pure 2 [(51, .slice a3_8 (x7.2.1).length c3_8), (52, .slice a3_12 (x11.2.1).length c3_12)] _ _ _ (by kernel_rfl) ?_
      obtain ⟨x22, hx, h⟩ := bind_some h
      have hpk : MS w21 ([] ++ [[b5], [b3], M]) := hms.pick [some 0, some 1, some 2] _ rfl
      have hsb0 : ∀ x ∈ fl ([] ++ [[b5], [b3], M]), x ∈ fl [[b5], [b3], M] := pick_sub [some 0, some 1, some 2] _ rfl
      have hsb : ∀ x ∈ fl ([] ++ [(fl [[b5], [b3], M])]), x ∈ fl [[b5], [b3], M] := fun x hx => hsb0 x (fl_unfold x hx)
      have hcall := gen_Lists_w a3_8 c3_8 x7.2.1 a3_12 c3_12 x11.2.1 _ w21 (fl [[b5], [b3], M]) (MS.fold (P := []) hpk) (hf8_2.sub hsb) (hf12_2.sub hsb) hx
      refine x_call 20 #[] #[] [.slice a3_8 (x7.2.1).length c3_8, .slice a3_12 (x11.2.1).length c3_12] _ rfl rfl rfl rfl hcall ?_
      rintro v w23 ⟨rfl, he23⟩
      clear hcall hx
      refine ⟨.inr he23, ?_⟩
      have hst := Stp.ext (ls := [[b5], [b3], M]) he23
      replace hs_j_0_Items := hs_j_0_Items.step hst
      replace hs_p_1_Codes := hs_p_1_Codes.step hst
      replace hb3 := he23.box hb3 (fun h => by cases h)
      replace hb5 := he23.box hb5 (fun h => by cases h)
      replace hf8_1 := hf8_1.step hst
      replace hf8_2 := hf8_2.step hst
      replace hf12_1 := hf12_1.step hst
      replace hf12_2 := hf12_2.step hst
      replace hms := hms.ev he23
      replace hev := hev.ext he23
      clear hpk hsb hsb0
      refine x_pure 3 [(54, .bool (!x22)), (55, .bool (!x22)), (56, .bool (!x22))] _ _ _ (by kernel_rfl) ?_
      refine x_split 56 (!x22) rfl (fun hb => ?_) (fun hb => ?_)
      · replace h := ite_t hb h
        refine x_pure 4 [(57, undef), (58, undef), (59, undef), (60, .bool true)] _ _ _ (by kernel_rfl) ?_
        refine x_end rfl ?_
        refine k_then ?_
        refine c_norm [(3, .pointer (some ⟨b3, 0, none⟩)), (4, .pointer (some ⟨b5, 0, none⟩)), (60, .bool true)] ⟨rfl, rfl, rfl, trivial⟩ (fun J => ?_)
        refine c_true rfl ?_
        refine c_seq ?_
        refine c_plain ?_
        refine x_pure 1 [(6, .bool false)] _ _ _ (by kernel_rfl) ?_
        refine x_end rfl ?_
        refine k_then ?_
        refine c_norm [(6, .bool false)] ⟨rfl, trivial⟩ (fun J => ?_)
        refine c_ret ?_
        refine k_then_ret ?_
        refine r_ret (r_vals [.bool false] ⟨rfl, trivial⟩ ?_)
        have hx := some_inj h
        subst hx
        have hmr : MS w23 [M] := hms.pick [some 2] _ rfl
        have hsu : ∀ x ∈ fl [M], x ∈ fl [[b5], [b3], M] := pick_sub [some 2] _ rfl
        exact ⟨rfl, hev⟩
      · replace h := ite_f hb h
        refine x_pure 4 [(57, .int .i64 x7.2.2), (58, .int .i64 x11.2.2), (59, .bool (x7.2.2 != x11.2.2)), (60, .bool (x7.2.2 != x11.2.2))] _ _ _ (by kernel_rfl) ?_
        refine x_end rfl ?_
        refine k_then ?_
        refine c_norm [(3, .pointer (some ⟨b3, 0, none⟩)), (4, .pointer (some ⟨b5, 0, none⟩)), (60, .bool (x7.2.2 != x11.2.2))] ⟨rfl, rfl, rfl, trivial⟩ (fun J => ?_)
        refine c_cond (x7.2.2 != x11.2.2) rfl (fun hb => ?_) (fun hb => ?_)
        · replace h := ite_t hb h
          refine c_seq ?_
          refine c_plain ?_
          refine x_pure 1 [(6, .bool false)] _ _ _ (by kernel_rfl) ?_
          refine x_end rfl ?_
          refine k_then ?_
          refine c_norm [(6, .bool false)] ⟨rfl, trivial⟩ (fun J => ?_)
          refine c_ret ?_
          refine k_then_ret ?_
          refine r_ret (r_vals [.bool false] ⟨rfl, trivial⟩ ?_)
          have hx := some_inj h
          subst hx
          have hmr : MS w23 [M] := hms.pick [some 2] _ rfl
          have hsu : ∀ x ∈ fl [M], x ∈ fl [[b5], [b3], M] := pick_sub [some 2] _ rfl
          exact ⟨rfl, hev⟩
        · replace h := ite_f hb h
          refine c_skip ?_
          refine k_then ?_
          refine c_norm [(3, .pointer (some ⟨b3, 0, none⟩)), (4, .pointer (some ⟨b5, 0, none⟩))] ⟨rfl, rfl, trivial⟩ (fun J => ?_)
          refine c_seq ?_
          refine c_plain ?_
          refine x_load (xv := .pointer (some ⟨b3, 0, none⟩)) (.agg #[.slice a_j_0_Items (j_0_Items).length c_j_0_Items, .int .i64 j_0_Weight]) rfl rfl rfl (reads_boxagg 0 [.slice a_j_0_Items (j_0_Items).length c_j_0_Items, .int .i64 j_0_Weight] tagg27 hb3 (fun h => by cases h) rfl) ?_
          refine x_load (xv := .pointer (some ⟨b5, 0, none⟩)) (.agg #[.int .i64 p_1_Steps, .slice a_p_1_Codes (p_1_Codes).length c_p_1_Codes]) rfl rfl rfl (reads_boxagg 0 [.int .i64 p_1_Steps, .slice a_p_1_Codes (p_1_Codes).length c_p_1_Codes] tagg30 hb5 (fun h => by cases h) rfl) ?_
          obtain ⟨x24, hx, h⟩ := bind_some h
          have hpk : MS w23 ([] ++ [[b5], [b3], M]) := hms.pick [some 0, some 1, some 2] _ rfl
          have hsb0 : ∀ x ∈ fl ([] ++ [[b5], [b3], M]), x ∈ fl [[b5], [b3], M] := pick_sub [some 0, some 1, some 2] _ rfl
          have hsb : ∀ x ∈ fl ([] ++ [(fl [[b5], [b3], M])]), x ∈ fl [[b5], [b3], M] := fun x hx => hsb0 x (fl_unfold x hx)
          have hcall := rollin_Run_w a_j_0_Items c_j_0_Items j_0_Items j_0_Weight p_1_Steps a_p_1_Codes c_p_1_Codes p_1_Codes _ w23 (fl [[b5], [b3], M]) (MS.fold (P := []) hpk) (hs_j_0_Items.sub hsb) (hs_p_1_Codes.sub hsb) hx
          refine x_call 14 #[] #[] [.agg #[.slice a_j_0_Items (j_0_Items).length c_j_0_Items, .int .i64 j_0_Weight], .agg #[.int .i64 p_1_Steps, .slice a_p_1_Codes (p_1_Codes).length c_p_1_Codes]] _ rfl rfl rfl rfl hcall ?_
          rintro v w25 ⟨a0_25, c0_25, B2_25, rfl, he25, hmn25, hfn25, hf25_1⟩
          clear hcall hx
          refine ⟨.inl rfl, ?_⟩
          have hpk2 : MS w23 ([] ++ [[b5], [b3], M]) := hms.pick [some 0, some 1, some 2] _ rfl
          have hsb2 : ∀ x ∈ fl ([] ++ [[b5], [b3], M]), x ∈ fl [[b5], [b3], M] := pick_sub [some 0, some 1, some 2] _ rfl
          have hst0 := Stp.call (LS := [[b5], [b3], M]) (res := [B2_25]) (par := []) (R := [[b5], [b3], M]) he25 (fun b hb => hsb2 b (fl_left' (P := []) b hb)) hfn25 (NP.init _ _) (fun x hx => hsb2 x (fl_right' (P := []) x hx))
          have hsn : ∀ x ∈ fl [B2_25, [b5], [b3], M], x ∈ fl ([B2_25] ++ ([] ++ [[b5], [b3], M])) := pick_sub [some 0, some 1, some 2, some 3] _ rfl
          have hst := hst0.res hsn
          replace hs_j_0_Items := hs_j_0_Items.step hst
          replace hs_p_1_Codes := hs_p_1_Codes.step hst
          replace hb3 := he25.box hb3 ((MS.outs (P := []) hpk2 1 rfl) _ (List.mem_singleton.2 rfl))
          replace hb5 := he25.box hb5 ((MS.outs (P := []) hpk2 0 rfl) _ (List.mem_singleton.2 rfl))
          replace hms : MS w25 [B2_25, [b5], [b3], M] := (MS.call (P := []) (R := [[b5], [b3], M]) (res := [B2_25]) (par := []) hpk2 he25 hmn25 hfn25 (NP.init _ _)).pick [some 0, some 1, some 2, some 3] _ rfl
          have hfr2 : FR w.heap.size [B2_25, [b5], [b3]] := (FR.cons (fun b hb => Nat.le_trans hev.size (hfn25.at 0 rfl b hb)) (FR.cons (hfr.at 0 rfl) (FR.cons (hfr.at 1 rfl) (FR.nil _))))
          replace hev := hev.ext he25
          replace hfr := hfr2
          clear hfr2
          clear hpk hsb hsb0 hpk2 hsb2 hst0 hsn hst
          have hpk : MS w25 [[b5], [b3], M] := hms.pick [some 1, some 2, some 3] _ rfl
          have hsu : ∀ x ∈ fl [[b5], [b3], M], x ∈ fl [B2_25, [b5], [b3], M] := pick_sub [some 1, some 2, some 3] _ rfl
          replace hs_j_0_Items := hs_j_0_Items.sub hsu
          replace hs_p_1_Codes := hs_p_1_Codes.sub hsu
          replace hf25_1 := hf25_1.ro (plain_int _) (pick_out hms 0 rfl [some 1, some 2, some 3] [[b5], [b3], M] rfl rfl)
          replace hms := hpk
          replace hfr : FR w.heap.size [[b5], [b3]] := hfr.pick [some 1, some 2] _ rfl
          clear hpk hsu
          refine x_pure 3 [(61, .tuple #[.agg #[.slice a0_25 (x24.1.1).length c0_25, .int .i64 x24.1.2], .int .i64 x24.2]), (65, .agg #[.slice a0_25 (x24.1.1).length c0_25, .int .i64 x24.1.2]), (66, .int .i64 x24.2)] _ _ _ (by kernel_rfl) ?_
          refine x_alloc (z := .agg #[.slice none 0 0, .int .i64 0]) rfl rfl (by kernel_rfl) (fun b27 w27 hq27 hb27 he27 _ => ?_)
          replace hb27 : w27.heap[b27]? = some (.cells #[.slice none 0 0, .int .i64 0] 34 (0, 0)) := hb27
          refine ⟨.inl rfl, ?_⟩
          have hst := Stp.box (ls := [[b5], [b3], M]) he27 hq27
          replace hs_j_0_Items := hs_j_0_Items.step hst
          replace hs_p_1_Codes := hs_p_1_Codes.step hst
          replace hb3 := he27.box hb3 (fun h => by cases h)
          replace hb5 := he27.box hb5 (fun h => by cases h)
          replace hf25_1 := hf25_1.step hst
          replace hms := hms.box he27 hq27 hb27
          replace hfr := hfr.box hev.size hq27
          replace hev := hev.ext he27
          obtain ⟨w29, hr29, hb29, he29⟩ := store_boxagg 0 [.slice a0_25 (x24.1.1).length c0_25, .int .i64 x24.1.2] #[.slice a0_25 (x24.1.1).length c0_25, .int .i64 x24.1.2] tagg34 hb27 rfl rfl rfl
          refine x_store w29 (xv := .pointer (some ⟨b27, 0, none⟩)) (yv := .agg #[.slice a0_25 (x24.1.1).length c0_25, .int .i64 x24.1.2]) rfl rfl rfl rfl hr29 ?_
          refine ⟨.inl rfl, ?_⟩
          have hst := Stp.ev' (ls := [[b27], [b5], [b3], M]) he29 (mem_flat 0 rfl)
          replace hs_j_0_Items := hs_j_0_Items.step hst
          replace hs_p_1_Codes := hs_p_1_Codes.step hst
          replace hb3 := he29.box hb3 (hms.apart 2 0 rfl rfl rfl _ (List.mem_singleton.2 rfl))
          replace hb5 := he29.box hb5 (hms.apart 1 0 rfl rfl rfl _ (List.mem_singleton.2 rfl))
          replace hf25_1 := hf25_1.step hst
          replace hms := hms.ev he29
          replace hev := hev.then he29 (fun b hb => .inr (hfr.at 0 rfl b hb))
          replace hb27 := hb29
          refine x_pure 1 [(9, .int .i64 x24.2)] _ _ _ (by kernel_rfl) ?_
          refine x_end rfl ?_
          refine k_then ?_
          refine c_norm [(3, .pointer (some ⟨b3, 0, none⟩)), (4, .pointer (some ⟨b5, 0, none⟩)), (9, .int .i64 x24.2), (13, .pointer (some ⟨b27, 0, none⟩))] ⟨rfl, rfl, rfl, rfl, trivial⟩ (fun J => ?_)
          refine c_seq ?_
          refine c_plain ?_
          refine x_load (xv := .pointer (some ⟨b3, 0, none⟩)) (.agg #[.slice a_j_0_Items (j_0_Items).length c_j_0_Items, .int .i64 j_0_Weight]) rfl rfl rfl (reads_boxagg 0 [.slice a_j_0_Items (j_0_Items).length c_j_0_Items, .int .i64 j_0_Weight] tagg27 hb3 (fun h => by cases h) rfl) ?_
          refine x_load (xv := .pointer (some ⟨b5, 0, none⟩)) (.agg #[.int .i64 p_1_Steps, .slice a_p_1_Codes (p_1_Codes).length c_p_1_Codes]) rfl rfl rfl (reads_boxagg 0 [.int .i64 p_1_Steps, .slice a_p_1_Codes (p_1_Codes).length c_p_1_Codes] tagg30 hb5 (fun h => by cases h) rfl) ?_
          obtain ⟨x30, hx, h⟩ := bind_some h
          have hpk : MS w29 ([] ++ [[b27], [b5], [b3], M]) := hms.pick [some 0, some 1, some 2, some 3] _ rfl
          have hsb0 : ∀ x ∈ fl ([] ++ [[b27], [b5], [b3], M]), x ∈ fl [[b27], [b5], [b3], M] := pick_sub [some 0, some 1, some 2, some 3] _ rfl
          have hsb : ∀ x ∈ fl ([] ++ [(fl [[b27], [b5], [b3], M])]), x ∈ fl [[b27], [b5], [b3], M] := fun x hx => hsb0 x (fl_unfold x hx)
          have hcall := r14_Run_w a_j_0_Items c_j_0_Items j_0_Items j_0_Weight p_1_Steps a_p_1_Codes c_p_1_Codes p_1_Codes _ w29 (fl [[b27], [b5], [b3], M]) (MS.fold (P := []) hpk) (hs_j_0_Items.sub hsb) (hs_p_1_Codes.sub hsb) hx
          refine x_call 38 #[] #[] [.agg #[.slice a_j_0_Items (j_0_Items).length c_j_0_Items, .int .i64 j_0_Weight], .agg #[.int .i64 p_1_Steps, .slice a_p_1_Codes (p_1_Codes).length c_p_1_Codes]] _ rfl rfl rfl rfl hcall ?_
          rintro v w31 ⟨a0_31, c0_31, B2_31, rfl, he31, hmn31, hfn31, hf31_1⟩
          clear hcall hx
          refine ⟨.inl rfl, ?_⟩
          have hpk2 : MS w29 ([] ++ [[b27], [b5], [b3], M]) := hms.pick [some 0, some 1, some 2, some 3] _ rfl
          have hsb2 : ∀ x ∈ fl ([] ++ [[b27], [b5], [b3], M]), x ∈ fl [[b27], [b5], [b3], M] := pick_sub [some 0, some 1, some 2, some 3] _ rfl
          have hst0 := Stp.call (LS := [[b27], [b5], [b3], M]) (res := [B2_31]) (par := []) (R := [[b27], [b5], [b3], M]) he31 (fun b hb => hsb2 b (fl_left' (P := []) b hb)) hfn31 (NP.init _ _) (fun x hx => hsb2 x (fl_right' (P := []) x hx))
          have hsn : ∀ x ∈ fl [B2_31, [b27], [b5], [b3], M], x ∈ fl ([B2_31] ++ ([] ++ [[b27], [b5], [b3], M])) := pick_sub [some 0, some 1, some 2, some 3, some 4] _ rfl
          have hst := hst0.res hsn
          replace hs_j_0_Items := hs_j_0_Items.step hst
          replace hs_p_1_Codes := hs_p_1_Codes.step hst
          replace hb3 := he31.box hb3 ((MS.outs (P := []) hpk2 2 rfl) _ (List.mem_singleton.2 rfl))
          replace hb5 := he31.box hb5 ((MS.outs (P := []) hpk2 1 rfl) _ (List.mem_singleton.2 rfl))
          replace hf25_1 := hf25_1.step hst
          replace hb27 := he31.box hb27 ((MS.outs (P := []) hpk2 0 rfl) _ (List.mem_singleton.2 rfl))
          replace hms : MS w31 [B2_31, [b27], [b5], [b3], M] := (MS.call (P := []) (R := [[b27], [b5], [b3], M]) (res := [B2_31]) (par := []) hpk2 he31 hmn31 hfn31 (NP.init _ _)).pick [some 0, some 1, some 2, some 3, some 4] _ rfl
          have hfr2 : FR w.heap.size [B2_31, [b27], [b5], [b3]] := (FR.cons (fun b hb => Nat.le_trans hev.size (hfn31.at 0 rfl b hb)) (FR.cons (hfr.at 0 rfl) (FR.cons (hfr.at 1 rfl) (FR.cons (hfr.at 2 rfl) (FR.nil _)))))
          replace hev := hev.ext he31
          replace hfr := hfr2
          clear hfr2
          clear hpk hsb hsb0 hpk2 hsb2 hst0 hsn hst
          have hpk : MS w31 [[b27], [b5], [b3], M] := hms.pick [some 1, some 2, some 3, some 4] _ rfl
          have hsu : ∀ x ∈ fl [[b27], [b5], [b3], M], x ∈ fl [B2_31, [b27], [b5], [b3], M] := pick_sub [some 1, some 2, some 3, some 4] _ rfl
          replace hs_j_0_Items := hs_j_0_Items.sub hsu
          replace hs_p_1_Codes := hs_p_1_Codes.sub hsu
          replace hf25_1 := hf25_1.sub hsu
          replace hf31_1 := hf31_1.ro (plain_int _) (pick_out hms 0 rfl [some 1, some 2, some 3, some 4] [[b27], [b5], [b3], M] rfl rfl)
          replace hms := hpk
          replace hfr : FR w.heap.size [[b27], [b5], [b3]] := hfr.pick [some 1, some 2, some 3] _ rfl
          clear hpk hsu
          refine x_pure 3 [(67, .tuple #[.agg #[.slice a0_31 (x30.1.1).length c0_31, .int .i64 x30.1.2], .int .i64 x30.2]), (71, .agg #[.slice a0_31 (x30.1.1).length c0_31, .int .i64 x30.1.2]), (72, .int .i64 x30.2)] _ _ _ (by kernel_rfl) ?_
          refine x_alloc (z := .agg #[.slice none 0 0, .int .i64 0]) rfl rfl (by kernel_rfl) (fun b33 w33 hq33 hb33 he33 _ => ?_)
          replace hb33 : w33.heap[b33]? = some (.cells #[.slice none 0 0, .int .i64 0] 34 (0, 0)) := hb33
          refine ⟨.inl rfl, ?_⟩
          have hst := Stp.box (ls := [[b27], [b5], [b3], M]) he33 hq33
          replace hs_j_0_Items := hs_j_0_Items.step hst
          replace hs_p_1_Codes := hs_p_1_Codes.step hst
          replace hb3 := he33.box hb3 (fun h => by cases h)
          replace hb5 := he33.box hb5 (fun h => by cases h)
          replace hf25_1 := hf25_1.step hst
          replace hb27 := he33.box hb27 (fun h => by cases h)
          replace hf31_1 := hf31_1.step hst
          replace hms := hms.box he33 hq33 hb33
          replace hfr := hfr.box hev.size hq33
          replace hev := hev.ext he33
          obtain ⟨w35, hr35, hb35, he35⟩ := store_boxagg 0 [.slice a0_31 (x30.1.1).length c0_31, .int .i64 x30.1.2] #[.slice a0_31 (x30.1.1).length c0_31, .int .i64 x30.1.2] tagg34 hb33 rfl rfl rfl
          refine x_store w35 (xv := .pointer (some ⟨b33, 0, none⟩)) (yv := .agg #[.slice a0_31 (x30.1.1).length c0_31, .int .i64 x30.1.2]) rfl rfl rfl rfl hr35 ?_
          refine ⟨.inl rfl, ?_⟩
          have hst := Stp.ev' (ls := [[b33], [b27], [b5], [b3], M]) he35 (mem_flat 0 rfl)
          replace hs_j_0_Items := hs_j_0_Items.step hst
          replace hs_p_1_Codes := hs_p_1_Codes.step hst
          replace hb3 := he35.box hb3 (hms.apart 3 0 rfl rfl rfl _ (List.mem_singleton.2 rfl))
          replace hb5 := he35.box hb5 (hms.apart 2 0 rfl rfl rfl _ (List.mem_singleton.2 rfl))
          replace hf25_1 := hf25_1.step hst
          replace hb27 := he35.box hb27 (hms.apart 1 0 rfl rfl rfl _ (List.mem_singleton.2 rfl))
          replace hf31_1 := hf31_1.step hst
          replace hms := hms.ev he35
          replace hev := hev.then he35 (fun b hb => .inr (hfr.at 0 rfl b hb))
          replace hb33 := hb35
          refine x_pure 1 [(12, .int .i64 x30.2)] _ _ _ (by kernel_rfl) ?_
          refine x_end rfl ?_
          refine k_then ?_
          refine c_norm [(3, .pointer (some ⟨b3, 0, none⟩)), (4, .pointer (some ⟨b5, 0, none⟩)), (9, .int .i64 x24.2), (12, .int .i64 x30.2), (13, .pointer (some ⟨b27, 0, none⟩)), (14, .pointer (some ⟨b33, 0, none⟩))] ⟨rfl, rfl, rfl, rfl, rfl, rfl, trivial⟩ (fun J => ?_)
          refine c_seq ?_
          refine c_plain ?_
          refine x_load (xv := .pointer (some ⟨b3, 0, none⟩)) (.agg #[.slice a_j_0_Items (j_0_Items).length c_j_0_Items, .int .i64 j_0_Weight]) rfl rfl rfl (reads_boxagg 0 [.slice a_j_0_Items (j_0_Items).length c_j_0_Items, .int .i64 j_0_Weight] tagg27 hb3 (fun h => by cases h) rfl) ?_
          refine x_load (xv := .pointer (some ⟨b5, 0, none⟩)) (.agg #[.int .i64 p_1_Steps, .slice a_p_1_Codes (p_1_Codes).length c_p_1_Codes]) rfl rfl rfl (reads_boxagg 0 [.int .i64 p_1_Steps, .slice a_p_1_Codes (p_1_Codes).length c_p_1_Codes] tagg30 hb5 (fun h => by cases h) rfl) ?_
          obtain ⟨x36, hx, h⟩ := bind_some h
          have hpk : MS w35 ([] ++ [[b33], [b27], [b5], [b3], M]) := hms.pick [some 0, some 1, some 2, some 3, some 4] _ rfl
          have hsb0 : ∀ x ∈ fl ([] ++ [[b33], [b27], [b5], [b3], M]), x ∈ fl [[b33], [b27], [b5], [b3], M] := pick_sub [some 0, some 1, some 2, some 3, some 4] _ rfl
          have hsb : ∀ x ∈ fl ([] ++ [(fl [[b33], [b27], [b5], [b3], M])]), x ∈ fl [[b33], [b27], [b5], [b3], M] := fun x hx => hsb0 x (fl_unfold x hx)
          have hcall := rollin_Loads_w a_j_0_Items c_j_0_Items j_0_Items j_0_Weight p_1_Steps a_p_1_Codes c_p_1_Codes p_1_Codes _ w35 (fl [[b33], [b27], [b5], [b3], M]) (MS.fold (P := []) hpk) (hs_j_0_Items.sub hsb) (hs_p_1_Codes.sub hsb) hx
          refine x_call 17 #[] #[] [.agg #[.slice a_j_0_Items (j_0_Items).length c_j_0_Items, .int .i64 j_0_Weight], .agg #[.int .i64 p_1_Steps, .slice a_p_1_Codes (p_1_Codes).length c_p_1_Codes]] _ rfl rfl rfl rfl hcall ?_
          rintro v w37 ⟨a0_37, c0_37, rfl, he37, hmn37, hfn37, hf37_1⟩
          clear hcall hx
          refine ⟨.inl rfl, ?_⟩
          have hpk2 : MS w35 ([] ++ [[b33], [b27], [b5], [b3], M]) := hms.pick [some 0, some 1, some 2, some 3, some 4] _ rfl
          have hsb2 : ∀ x ∈ fl ([] ++ [[b33], [b27], [b5], [b3], M]), x ∈ fl [[b33], [b27], [b5], [b3], M] := pick_sub [some 0, some 1, some 2, some 3, some 4] _ rfl
          have hst0 := Stp.call (LS := [[b33], [b27], [b5], [b3], M]) (res := [blk a0_37]) (par := []) (R := [[b33], [b27], [b5], [b3], M]) he37 (fun b hb => hsb2 b (fl_left' (P := []) b hb)) hfn37 (NP.init _ _) (fun x hx => hsb2 x (fl_right' (P := []) x hx))
          have hsn : ∀ x ∈ fl [blk a0_37, [b33], [b27], [b5], [b3], M], x ∈ fl ([blk a0_37] ++ ([] ++ [[b33], [b27], [b5], [b3], M])) := pick_sub [some 0, some 1, some 2, some 3, some 4, some 5] _ rfl
          have hst := hst0.res hsn
          replace hs_j_0_Items := hs_j_0_Items.step hst
          replace hs_p_1_Codes := hs_p_1_Codes.step hst
          replace hb3 := he37.box hb3 ((MS.outs (P := []) hpk2 3 rfl) _ (List.mem_singleton.2 rfl))
          replace hb5 := he37.box hb5 ((MS.outs (P := []) hpk2 2 rfl) _ (List.mem_singleton.2 rfl))
          replace hf25_1 := hf25_1.step hst
          replace hb27 := he37.box hb27 ((MS.outs (P := []) hpk2 1 rfl) _ (List.mem_singleton.2 rfl))
          replace hf31_1 := hf31_1.step hst
          replace hb33 := he37.box hb33 ((MS.outs (P := []) hpk2 0 rfl) _ (List.mem_singleton.2 rfl))
          replace hms : MS w37 [blk a0_37, [b33], [b27], [b5], [b3], M] := (MS.call (P := []) (R := [[b33], [b27], [b5], [b3], M]) (res := [blk a0_37]) (par := []) hpk2 he37 hmn37 hfn37 (NP.init _ _)).pick [some 0, some 1, some 2, some 3, some 4, some 5] _ rfl
          have hfr2 : FR w.heap.size [blk a0_37, [b33], [b27], [b5], [b3]] := (FR.cons (fun b hb => Nat.le_trans hev.size (hfn37.at 0 rfl b hb)) (FR.cons (hfr.at 0 rfl) (FR.cons (hfr.at 1 rfl) (FR.cons (hfr.at 2 rfl) (FR.cons (hfr.at 3 rfl) (FR.nil _))))))
          replace hev := hev.ext he37
          replace hfr := hfr2
          clear hfr2
          replace hf37_1 := OwnS.plain (M' := fl [blk a0_37, [b33], [b27], [b5], [b3], M]) (plain_int _) hf37_1
          clear hpk hsb hsb0 hpk2 hsb2 hst0 hsn hst
          have hpk : MS w37 [[b33], [b27], [b5], [b3], M] := hms.pick [some 1, some 2, some 3, some 4, some 5] _ rfl
          have hsu : ∀ x ∈ fl [[b33], [b27], [b5], [b3], M], x ∈ fl [blk a0_37, [b33], [b27], [b5], [b3], M] := pick_sub [some 1, some 2, some 3, some 4, some 5] _ rfl
          replace hs_j_0_Items := hs_j_0_Items.sub hsu
          replace hs_p_1_Codes := hs_p_1_Codes.sub hsu
          replace hf25_1 := hf25_1.sub hsu
          replace hf31_1 := hf31_1.sub hsu
          replace hf37_1 := hf37_1.ro hsu (pick_out hms 0 rfl [some 1, some 2, some 3, some 4, some 5] [[b33], [b27], [b5], [b3], M] rfl rfl)
          replace hms := hpk
          replace hfr : FR w.heap.size [[b33], [b27], [b5], [b3]] := hfr.pick [some 1, some 2, some 3, some 4] _ rfl
          clear hpk hsu
          refine x_pure 5 [(73, .tuple #[.slice a0_37 (x36.1).length c0_37, .int .i64 x36.2]), (77, .slice a0_37 (x36.1).length c0_37), (78, .int .i64 x36.2), (15, .slice a0_37 (x36.1).length c0_37), (16, .int .i64 x36.2)] _ _ _ (by kernel_rfl) ?_
          refine x_end rfl ?_
          refine k_then ?_
          refine c_norm [(3, .pointer (some ⟨b3, 0, none⟩)), (4, .pointer (some ⟨b5, 0, none⟩)), (9, .int .i64 x24.2), (12, .int .i64 x30.2), (13, .pointer (some ⟨b27, 0, none⟩)), (14, .pointer (some ⟨b33, 0, none⟩)), (15, .slice a0_37 (x36.1).length c0_37), (16, .int .i64 x36.2)] ⟨rfl, rfl, rfl, rfl, rfl, rfl, rfl, rfl, trivial⟩ (fun J => ?_)
          refine c_seq ?_
          refine c_plain ?_
          refine x_load (xv := .pointer (some ⟨b3, 0, none⟩)) (.agg #[.slice a_j_0_Items (j_0_Items).length c_j_0_Items, .int .i64 j_0_Weight]) rfl rfl rfl (reads_boxagg 0 [.slice a_j_0_Items (j_0_Items).length c_j_0_Items, .int .i64 j_0_Weight] tagg27 hb3 (fun h => by cases h) rfl) ?_
          refine x_load (xv := .pointer (some ⟨b5, 0, none⟩)) (.agg #[.int .i64 p_1_Steps, .slice a_p_1_Codes (p_1_Codes).length c_p_1_Codes]) rfl rfl rfl (reads_boxagg 0 [.int .i64 p_1_Steps, .slice a_p_1_Codes (p_1_Codes).length c_p_1_Codes] tagg30 hb5 (fun h => by cases h) rfl) ?_
          obtain ⟨x39, hx, h⟩ := bind_some h
          have hpk : MS w37 ([] ++ [[b33], [b27], [b5], [b3], M]) := hms.pick [some 0, some 1, some 2, some 3, some 4] _ rfl
          have hsb0 : ∀ x ∈ fl ([] ++ [[b33], [b27], [b5], [b3], M]), x ∈ fl [[b33], [b27], [b5], [b3], M] := pick_sub [some 0, some 1, some 2, some 3, some 4] _ rfl
          have hsb : ∀ x ∈ fl ([] ++ [(fl [[b33], [b27], [b5], [b3], M])]), x ∈ fl [[b33], [b27], [b5], [b3], M] := fun x hx => hsb0 x (fl_unfold x hx)
          have hcall := r14_Loads_w a_j_0_Items c_j_0_Items j_0_Items j_0_Weight p_1_Steps a_p_1_Codes c_p_1_Codes p_1_Codes _ w37 (fl [[b33], [b27], [b5], [b3], M]) (MS.fold (P := []) hpk) (hs_j_0_Items.sub hsb) (hs_p_1_Codes.sub hsb) hx
          refine x_call 39 #[] #[] [.agg #[.slice a_j_0_Items (j_0_Items).length c_j_0_Items, .int .i64 j_0_Weight], .agg #[.int .i64 p_1_Steps, .slice a_p_1_Codes (p_1_Codes).length c_p_1_Codes]] _ rfl rfl rfl rfl hcall ?_
          rintro v w40 ⟨a0_40, c0_40, rfl, he40, hmn40, hfn40, hf40_1⟩
          clear hcall hx
          refine ⟨.inl rfl, ?_⟩
          have hpk2 : MS w37 ([] ++ [[b33], [b27], [b5], [b3], M]) := hms.pick [some 0, some 1, some 2, some 3, some 4] _ rfl
          have hsb2 : ∀ x ∈ fl ([] ++ [[b33], [b27], [b5], [b3], M]), x ∈ fl [[b33], [b27], [b5], [b3], M] := pick_sub [some 0, some 1, some 2, some 3, some 4] _ rfl
          have hst0 := Stp.call (LS := [[b33], [b27], [b5], [b3], M]) (res := [blk a0_40]) (par := []) (R := [[b33], [b27], [b5], [b3], M]) he40 (fun b hb => hsb2 b (fl_left' (P := []) b hb)) hfn40 (NP.init _ _) (fun x hx => hsb2 x (fl_right' (P := []) x hx))
          have hsn : ∀ x ∈ fl [blk a0_40, [b33], [b27], [b5], [b3], M], x ∈ fl ([blk a0_40] ++ ([] ++ [[b33], [b27], [b5], [b3], M])) := pick_sub [some 0, some 1, some 2, some 3, some 4, some 5] _ rfl
          have hst := hst0.res hsn
          replace hs_j_0_Items := hs_j_0_Items.step hst
          replace hs_p_1_Codes := hs_p_1_Codes.step hst
          replace hb3 := he40.box hb3 ((MS.outs (P := []) hpk2 3 rfl) _ (List.mem_singleton.2 rfl))
          replace hb5 := he40.box hb5 ((MS.outs (P := []) hpk2 2 rfl) _ (List.mem_singleton.2 rfl))
          replace hf25_1 := hf25_1.step hst
          replace hb27 := he40.box hb27 ((MS.outs (P := []) hpk2 1 rfl) _ (List.mem_singleton.2 rfl))
          replace hf31_1 := hf31_1.step hst
          replace hb33 := he40.box hb33 ((MS.outs (P := []) hpk2 0 rfl) _ (List.mem_singleton.2 rfl))
          replace hf37_1 := hf37_1.step hst
          replace hms : MS w40 [blk a0_40, [b33], [b27], [b5], [b3], M] := (MS.call (P := []) (R := [[b33], [b27], [b5], [b3], M]) (res := [blk a0_40]) (par := []) hpk2 he40 hmn40 hfn40 (NP.init _ _)).pick [some 0, some 1, some 2, some 3, some 4, some 5] _ rfl
          have hfr2 : FR w.heap.size [blk a0_40, [b33], [b27], [b5], [b3]] := (FR.cons (fun b hb => Nat.le_trans hev.size (hfn40.at 0 rfl b hb)) (FR.cons (hfr.at 0 rfl) (FR.cons (hfr.at 1 rfl) (FR.cons (hfr.at 2 rfl) (FR.cons (hfr.at 3 rfl) (FR.nil _))))))
          replace hev := hev.ext he40
          replace hfr := hfr2
          clear hfr2
          replace hf40_1 := OwnS.plain (M' := fl [blk a0_40, [b33], [b27], [b5], [b3], M]) (plain_int _) hf40_1
          clear hpk hsb hsb0 hpk2 hsb2 hst0 hsn hst
          have hpk : MS w40 [[b33], [b27], [b5], [b3], M] := hms.pick [some 1, some 2, some 3, some 4, some 5] _ rfl
          have hsu : ∀ x ∈ fl [[b33], [b27], [b5], [b3], M], x ∈ fl [blk a0_40, [b33], [b27], [b5], [b3], M] := pick_sub [some 1, some 2, some 3, some 4, some 5] _ rfl
          replace hs_j_0_Items := hs_j_0_Items.sub hsu
          replace hs_p_1_Codes := hs_p_1_Codes.sub hsu
          replace hf25_1 := hf25_1.sub hsu
          replace hf31_1 := hf31_1.sub hsu
          replace hf37_1 := hf37_1.sub hsu
          replace hf40_1 := hf40_1.ro hsu (pick_out hms 0 rfl [some 1, some 2, some 3, some 4, some 5] [[b33], [b27], [b5], [b3], M] rfl rfl)
          replace hms := hpk
          replace hfr : FR w.heap.size [[b33], [b27], [b5], [b3]] := hfr.pick [some 1, some 2, some 3, some 4] _ rfl
          clear hpk hsu
          refine x_pure 5 [(79, .tuple #[.slice a0_40 (x39.1).length c0_40, .int .i64 x39.2]), (83, .slice a0_40 (x39.1).length c0_40), (84, .int .i64 x39.2), (17, .slice a0_40 (x39.1).length c0_40), (18, .int .i64 x39.2)] _ _ _ (by kernel_rfl) ?_
          refine x_end rfl ?_
          refine k_then ?_
          refine c_norm [(3, .pointer (some ⟨b3, 0, none⟩)), (4, .pointer (some ⟨b5, 0, none⟩)), (9, .int .i64 x24.2), (12, .int .i64 x30.2), (13, .pointer (some ⟨b27, 0, none⟩)), (14, .pointer (some ⟨b33, 0, none⟩)), (15, .slice a0_37 (x36.1).length c0_37), (16, .int .i64 x36.2), (17, .slice a0_40 (x39.1).length c0_40), (18, .int .i64 x39.2)] ⟨rfl, rfl, rfl, rfl, rfl, rfl, rfl, rfl, rfl, rfl, trivial⟩ (fun J => ?_)
          refine c_seq ?_
          refine c_seq ?_
          refine c_plain ?_
          refine x_fieldAddr (xv := .pointer (some ⟨b27, 0, none⟩)) (.pointer (some ⟨b27, 0, none⟩)) rfl rfl rfl (reads_field tfld34_0 _ _) ?_
          refine x_load (xv := .pointer (some ⟨b27, 0, none⟩)) (.slice a0_25 (x24.1.1).length c0_25) rfl rfl rfl (reads_box tcell32 hb27 (fun h => by cases h) 0 _ rfl) ?_
          refine x_fieldAddr (xv := .pointer (some ⟨b33, 0, none⟩)) (.pointer (some ⟨b33, 0, none⟩)) rfl rfl rfl (reads_field tfld34_0 _ _) ?_
          refine x_load (xv := .pointer (some ⟨b33, 0, none⟩)) (.slice a0_31 (x30.1.1).length c0_31) rfl rfl rfl (reads_box tcell32 hb33 (fun h => by cases h) 0 _ rfl) ?_
          obtain ⟨x43, hx, h⟩ := bind_some h
          have hpk : MS w40 ([] ++ [[b33], [b27], [b5], [b3], M]) := hms.pick [some 0, some 1, some 2, some 3, some 4] _ rfl
          have hsb0 : ∀ x ∈ fl ([] ++ [[b33], [b27], [b5], [b3], M]), x ∈ fl [[b33], [b27], [b5], [b3], M] := pick_sub [some 0, some 1, some 2, some 3, some 4] _ rfl
          have hsb : ∀ x ∈ fl ([] ++ [(fl [[b33], [b27], [b5], [b3], M])]), x ∈ fl [[b33], [b27], [b5], [b3], M] := fun x hx => hsb0 x (fl_unfold x hx)
          have hcall := gen_Lists_w a0_25 c0_25 x24.1.1 a0_31 c0_31 x30.1.1 _ w40 (fl [[b33], [b27], [b5], [b3], M]) (MS.fold (P := []) hpk) (hf25_1.sub hsb) (hf31_1.sub hsb) hx
          refine x_call 20 #[] #[] [.slice a0_25 (x24.1.1).length c0_25, .slice a0_31 (x30.1.1).length c0_31] _ rfl rfl rfl rfl hcall ?_
          rintro v w44 ⟨rfl, he44⟩
          clear hcall hx
          refine ⟨.inl rfl, ?_⟩
          have hst := Stp.ext (ls := [[b33], [b27], [b5], [b3], M]) he44
          replace hs_j_0_Items := hs_j_0_Items.step hst
          replace hs_p_1_Codes := hs_p_1_Codes.step hst
          replace hb3 := he44.box hb3 (fun h => by cases h)
          replace hb5 := he44.box hb5 (fun h => by cases h)
          replace hf25_1 := hf25_1.step hst
          replace hb27 := he44.box hb27 (fun h => by cases h)
          replace hf31_1 := hf31_1.step hst
          replace hb33 := he44.box hb33 (fun h => by cases h)
          replace hf37_1 := hf37_1.step hst
          replace hf40_1 := hf40_1.step hst
          replace hms := hms.ev he44
          replace hev := hev.ext he44
          clear hpk hsb hsb0
          refine x_pure 2 [(90, .bool (!x43)), (91, .bool (!x43))] _ _ _ (by kernel_rfl) ?_
          refine x_split 91 (!x43) rfl (fun hb => ?_) (fun hb => ?_)
          · replace h := ite_t hb h
            refine x_pure 22 [(92, undef), (93, undef), (94, undef), (95, undef), (96, undef), (97, .bool true), (98, .bool true), (99, undef), (100, undef), (101, undef), (102, .bool true), (103, .bool true), (104, undef), (105, undef), (106, undef), (107, undef), (108, .bool true), (109, .bool true), (110, undef), (111, undef), (112, undef), (113, .bool true)] _ _ _ (by kernel_rfl) ?_
            refine x_end rfl ?_
            refine k_then ?_
            refine c_norm [(3, .pointer (some ⟨b3, 0, none⟩)), (4, .pointer (some ⟨b5, 0, none⟩)), (113, .bool true)] ⟨rfl, rfl, rfl, trivial⟩ (fun J => ?_)
            refine c_true rfl ?_
            refine c_seq ?_
            refine c_plain ?_
            refine x_pure 1 [(6, .bool false)] _ _ _ (by kernel_rfl) ?_
            refine x_end rfl ?_
            refine k_then ?_
            refine c_norm [(6, .bool false)] ⟨rfl, trivial⟩ (fun J => ?_)
            refine c_ret ?_
            refine k_then_ret ?_
            refine r_ret (r_vals [.bool false] ⟨rfl, trivial⟩ ?_)
            have hx := some_inj h
            subst hx
            have hmr : MS w44 [M] := hms.pick [some 4] _ rfl
            have hsu : ∀ x ∈ fl [M], x ∈ fl [[b33], [b27], [b5], [b3], M] := pick_sub [some 4] _ rfl
            exact ⟨rfl, hev⟩
          · replace h := ite_f hb h
            refine x_fieldAddr (xv := .pointer (some ⟨b27, 0, none⟩)) (.pointer (some ⟨b27, 1, none⟩)) rfl rfl rfl (reads_field tfld34_1 _ _) ?_
            refine x_load (xv := .pointer (some ⟨b27, 1, none⟩)) (.int .i64 x24.1.2) rfl rfl rfl (reads_box tcell3 hb27 (fun h => by cases h) 1 _ rfl) ?_
            refine x_fieldAddr (xv := .pointer (some ⟨b33, 0, none⟩)) (.pointer (some ⟨b33, 1, none⟩)) rfl rfl rfl (reads_field tfld34_1 _ _) ?_
            refine x_load (xv := .pointer (some ⟨b33, 1, none⟩)) (.int .i64 x30.1.2) rfl rfl rfl (reads_box tcell3 hb33 (fun h => by cases h) 1 _ rfl) ?_
            refine x_pure 3 [(96, .bool (x24.1.2 != x30.1.2)), (97, .bool (x24.1.2 != x30.1.2)), (98, .bool (x24.1.2 != x30.1.2))] _ _ _ (by kernel_rfl) ?_
            refine x_split 98 (x24.1.2 != x30.1.2) rfl (fun hb => ?_) (fun hb => ?_)
            · replace h := ite_t hb h
              refine x_pure 15 [(99, undef), (100, undef), (101, undef), (102, .bool true), (103, .bool true), (104, undef), (105, undef), (106, undef), (107, undef), (108, .bool true), (109, .bool true), (110, undef), (111, undef), (112, undef), (113, .bool true)] _ _ _ (by kernel_rfl) ?_
              refine x_end rfl ?_
              refine k_then ?_
              refine c_norm [(3, .pointer (some ⟨b3, 0, none⟩)), (4, .pointer (some ⟨b5, 0, none⟩)), (113, .bool true)] ⟨rfl, rfl, rfl, trivial⟩ (fun J => ?_)
              refine c_true rfl ?_
              refine c_seq ?_
              refine c_plain ?_
              refine x_pure 1 [(6, .bool false)] _ _ _ (by kernel_rfl) ?_
              refine x_end rfl ?_
              refine k_then ?_
              refine c_norm [(6, .bool false)] ⟨rfl, trivial⟩ (fun J => ?_)
              refine c_ret ?_
              refine k_then_ret ?_
              refine r_ret (r_vals [.bool false] ⟨rfl, trivial⟩ ?_)
              have hx := some_inj h
              subst hx
              have hmr : MS w44 [M] := hms.pick [some 4] _ rfl
              have hsu : ∀ x ∈ fl [M], x ∈ fl [[b33], [b27], [b5], [b3], M] := pick_sub [some 4] _ rfl
              exact ⟨rfl, hev⟩
            · replace h := ite_f hb h
              refine x_pure 5 [(99, .int .i64 x24.2), (100, .int .i64 x30.2), (101, .bool (x24.2 != x30.2)), (102, .bool (x24.2 != x30.2)), (103, .bool (x24.2 != x30.2))] _ _ _ (by kernel_rfl) ?_
              refine x_split 103 (x24.2 != x30.2) rfl (fun hb => ?_) (fun hb => ?_)
              · replace h := ite_t hb h
                refine x_pure 10 [(104, undef), (105, undef), (106, undef), (107, undef), (108, .bool true), (109, .bool true), (110, undef), (111, undef), (112, undef), (113, .bool true)] _ _ _ (by kernel_rfl) ?_
                refine x_end rfl ?_
                refine k_then ?_
                refine c_norm [(3, .pointer (some ⟨b3, 0, none⟩)), (4, .pointer (some ⟨b5, 0, none⟩)), (113, .bool true)] ⟨rfl, rfl, rfl, trivial⟩ (fun J => ?_)
                refine c_true rfl ?_
                refine c_seq ?_
                refine c_plain ?_
                refine x_pure 1 [(6, .bool false)] _ _ _ (by kernel_rfl) ?_
                refine x_end rfl ?_
                refine k_then ?_
                refine c_norm [(6, .bool false)] ⟨rfl, trivial⟩ (fun J => ?_)
                refine c_ret ?_
                refine k_then_ret ?_
                refine r_ret (r_vals [.bool false] ⟨rfl, trivial⟩ ?_)
                have hx := some_inj h
                subst hx
                have hmr : MS w44 [M] := hms.pick [some 4] _ rfl
                have hsu : ∀ x ∈ fl [M], x ∈ fl [[b33], [b27], [b5], [b3], M] := pick_sub [some 4] _ rfl
                exact ⟨rfl, hev⟩
              · replace h := ite_f hb h
                refine x_pure 2 [(104, .slice a0_37 (x36.1).length c0_37), (105, .slice a0_40 (x39.1).length c0_40)] _ _ _ (by kernel_rfl) ?_
                obtain ⟨x45, hx, h⟩ := bind_some h
                have hpk : MS w44 ([] ++ [[b33], [b27], [b5], [b3], M]) := hms.pick [some 0, some 1, some 2, some 3, some 4] _ rfl
                have hsb0 : ∀ x ∈ fl ([] ++ [[b33], [b27], [b5], [b3], M]), x ∈ fl [[b33], [b27], [b5], [b3], M] := pick_sub [some 0, some 1, some 2, some 3, some 4] _ rfl
                have hsb : ∀ x ∈ fl ([] ++ [(fl [[b33], [b27], [b5], [b3], M])]), x ∈ fl [[b33], [b27], [b5], [b3], M] := fun x hx => hsb0 x (fl_unfold x hx)
                have hcall := gen_Ints_w a0_37 c0_37 x36.1 a0_40 c0_40 x39.1 _ w44 (fl [[b33], [b27], [b5], [b3], M]) (MS.fold (P := []) hpk) (hf37_1.sub hsb) (hf40_1.sub hsb) hx
                refine x_call 19 #[] #[] [.slice a0_37 (x36.1).length c0_37, .slice a0_40 (x39.1).length c0_40] _ rfl rfl rfl rfl hcall ?_
                rintro v w46 ⟨rfl, he46⟩
                clear hcall hx
                refine ⟨.inl rfl, ?_⟩
                have hst := Stp.ext (ls := [[b33], [b27], [b5], [b3], M]) he46
                replace hs_j_0_Items := hs_j_0_Items.step hst
                replace hs_p_1_Codes := hs_p_1_Codes.step hst
                replace hb3 := he46.box hb3 (fun h => by cases h)
                replace hb5 := he46.box hb5 (fun h => by cases h)
                replace hf25_1 := hf25_1.step hst
                replace hb27 := he46.box hb27 (fun h => by cases h)
                replace hf31_1 := hf31_1.step hst
                replace hb33 := he46.box hb33 (fun h => by cases h)
                replace hf37_1 := hf37_1.step hst
                replace hf40_1 := hf40_1.step hst
                replace hms := hms.ev he46
                replace hev := hev.ext he46
                clear hpk hsb hsb0
                refine x_pure 3 [(107, .bool (!x45)), (108, .bool (!x45)), (109, .bool (!x45))] _ _ _ (by kernel_rfl) ?_
                refine x_split 109 (!x45) rfl (fun hb => ?_) (fun hb => ?_)
                · replace h := ite_t hb h
                  refine x_pure 4 [(110, undef), (111, undef), (112, undef), (113, .bool true)] _ _ _ (by kernel_rfl) ?_
                  refine x_end rfl ?_
                  refine k_then ?_
                  refine c_norm [(3, .pointer (some ⟨b3, 0, none⟩)), (4, .pointer (some ⟨b5, 0, none⟩)), (113, .bool true)] ⟨rfl, rfl, rfl, trivial⟩ (fun J => ?_)
                  refine c_true rfl ?_
                  refine c_seq ?_
                  refine c_plain ?_
                  refine x_pure 1 [(6, .bool false)] _ _ _ (by kernel_rfl) ?_
                  refine x_end rfl ?_
                  refine k_then ?_
                  refine c_norm [(6, .bool false)] ⟨rfl, trivial⟩ (fun J => ?_)
                  refine c_ret ?_
                  refine k_then_ret ?_
                  refine r_ret (r_vals [.bool false] ⟨rfl, trivial⟩ ?_)
                  have hx := some_inj h
                  subst hx
                  have hmr : MS w46 [M] := hms.pick [some 4] _ rfl
                  have hsu : ∀ x ∈ fl [M], x ∈ fl [[b33], [b27], [b5], [b3], M] := pick_sub [some 4] _ rfl
                  exact ⟨rfl, hev⟩
                · replace h := ite_f hb h
                  refine x_pure 4 [(110, .int .i64 x36.2), (111, .int .i64 x39.2), (112, .bool (x36.2 != x39.2)), (113, .bool (x36.2 != x39.2))] _ _ _ (by kernel_rfl) ?_
                  refine x_end rfl ?_
                  refine k_then ?_
                  refine c_norm [(3, .pointer (some ⟨b3, 0, none⟩)), (4, .pointer (some ⟨b5, 0, none⟩)), (113, .bool (x36.2 != x39.2))] ⟨rfl, rfl, rfl, trivial⟩ (fun J => ?_)
                  refine c_cond (x36.2 != x39.2) rfl (fun hb => ?_) (fun hb => ?_)
                  · replace h := ite_t hb h
                    refine c_seq ?_
                    refine c_plain ?_
                    refine x_pure 1 [(6, .bool false)] _ _ _ (by kernel_rfl) ?_
                    refine x_end rfl ?_
                    refine k_then ?_
                    refine c_norm [(6, .bool false)] ⟨rfl, trivial⟩ (fun J => ?_)
                    refine c_ret ?_
                    refine k_then_ret ?_
                    refine r_ret (r_vals [.bool false] ⟨rfl, trivial⟩ ?_)
                    have hx := some_inj h
                    subst hx
                    have hmr : MS w46 [M] := hms.pick [some 4] _ rfl
                    have hsu : ∀ x ∈ fl [M], x ∈ fl [[b33], [b27], [b5], [b3], M] := pick_sub [some 4] _ rfl
                    exact ⟨rfl, hev⟩
                  · replace h := ite_f hb h
                    refine c_skip ?_
                    refine k_then ?_
                    refine c_norm [(3, .pointer (some ⟨b3, 0, none⟩)), (4, .pointer (some ⟨b5, 0, none⟩))] ⟨rfl, rfl, trivial⟩ (fun J => ?_)
                    refine c_seq ?_
                    refine c_plain ?_
                    refine x_load (xv := .pointer (some ⟨b3, 0, none⟩)) (.agg #[.slice a_j_0_Items (j_0_Items).length c_j_0_Items, .int .i64 j_0_Weight]) rfl rfl rfl (reads_boxagg 0 [.slice a_j_0_Items (j_0_Items).length c_j_0_Items, .int .i64 j_0_Weight] tagg27 hb3 (fun h => by cases h) rfl) ?_
                    refine x_load (xv := .pointer (some ⟨b5, 0, none⟩)) (.agg #[.int .i64 p_1_Steps, .slice a_p_1_Codes (p_1_Codes).length c_p_1_Codes]) rfl rfl rfl (reads_boxagg 0 [.int .i64 p_1_Steps, .slice a_p_1_Codes (p_1_Codes).length c_p_1_Codes] tagg30 hb5 (fun h => by cases h) rfl) ?_
                    obtain ⟨x47, hx, h⟩ := bind_some h
                    have hpk : MS w46 ([] ++ [[b33], [b27], [b5], [b3], M]) := hms.pick [some 0, some 1, some 2, some 3, some 4] _ rfl
                    have hsb0 : ∀ x ∈ fl ([] ++ [[b33], [b27], [b5], [b3], M]), x ∈ fl [[b33], [b27], [b5], [b3], M] := pick_sub [some 0, some 1, some 2, some 3, some 4] _ rfl
                    have hsb : ∀ x ∈ fl ([] ++ [(fl [[b33], [b27], [b5], [b3], M])]), x ∈ fl [[b33], [b27], [b5], [b3], M] := fun x hx => hsb0 x (fl_unfold x hx)
                    have hcall := rollin_Pushes_w a_j_0_Items c_j_0_Items j_0_Items j_0_Weight p_1_Steps a_p_1_Codes c_p_1_Codes p_1_Codes _ w46 (fl [[b33], [b27], [b5], [b3], M]) (MS.fold (P := []) hpk) (hs_j_0_Items.sub hsb) (hs_p_1_Codes.sub hsb) hx
                    refine x_call 21 #[] #[] [.agg #[.slice a_j_0_Items (j_0_Items).length c_j_0_Items, .int .i64 j_0_Weight], .agg #[.int .i64 p_1_Steps, .slice a_p_1_Codes (p_1_Codes).length c_p_1_Codes]] _ rfl rfl rfl rfl hcall ?_
                    rintro v w48 ⟨rfl, he48⟩
                    clear hcall hx
                    refine ⟨.inl rfl, ?_⟩
                    have hst := Stp.ext (ls := [[b33], [b27], [b5], [b3], M]) he48
                    replace hs_j_0_Items := hs_j_0_Items.step hst
                    replace hs_p_1_Codes := hs_p_1_Codes.step hst
                    replace hb3 := he48.box hb3 (fun h => by cases h)
                    replace hb5 := he48.box hb5 (fun h => by cases h)
                    replace hf25_1 := hf25_1.step hst
                    replace hb27 := he48.box hb27 (fun h => by cases h)
                    replace hf31_1 := hf31_1.step hst
                    replace hb33 := he48.box hb33 (fun h => by cases h)
                    replace hms := hms.ev he48
                    replace hev := hev.ext he48
                    clear hpk hsb hsb0
                    refine x_pure 5 [(114, .tuple #[.int .i64 x47.1, .int .i64 x47.2]), (118, .int .i64 x47.1), (119, .int .i64 x47.2), (19, .int .i64 x47.1), (9, .int .i64 x47.2)] _ _ _ (by kernel_rfl) ?_
                    refine x_end rfl ?_
                    refine k_then ?_
                    refine c_norm [(3, .pointer (some ⟨b3, 0, none⟩)), (4, .pointer (some ⟨b5, 0, none⟩)), (9, .int .i64 x47.2), (19, .int .i64 x47.1)] ⟨rfl, rfl, rfl, rfl, trivial⟩ (fun J => ?_)
                    refine c_seq ?_
                    refine c_plain ?_
                    refine x_load (xv := .pointer (some ⟨b3, 0, none⟩)) (.agg #[.slice a_j_0_Items (j_0_Items).length c_j_0_Items, .int .i64 j_0_Weight]) rfl rfl rfl (reads_boxagg 0 [.slice a_j_0_Items (j_0_Items).length c_j_0_Items, .int .i64 j_0_Weight] tagg27 hb3 (fun h => by cases h) rfl) ?_
                    refine x_load (xv := .pointer (some ⟨b5, 0, none⟩)) (.agg #[.int .i64 p_1_Steps, .slice a_p_1_Codes (p_1_Codes).length c_p_1_Codes]) rfl rfl rfl (reads_boxagg 0 [.int .i64 p_1_Steps, .slice a_p_1_Codes (p_1_Codes).length c_p_1_Codes] tagg30 hb5 (fun h => by cases h) rfl) ?_
                    obtain ⟨x49, hx, h⟩ := bind_some h
                    have hpk : MS w48 ([] ++ [[b33], [b27], [b5], [b3], M]) := hms.pick [some 0, some 1, some 2, some 3, some 4] _ rfl
                    have hsb0 : ∀ x ∈ fl ([] ++ [[b33], [b27], [b5], [b3], M]), x ∈ fl [[b33], [b27], [b5], [b3], M] := pick_sub [some 0, some 1, some 2, some 3, some 4] _ rfl
                    have hsb : ∀ x ∈ fl ([] ++ [(fl [[b33], [b27], [b5], [b3], M])]), x ∈ fl [[b33], [b27], [b5], [b3], M] := fun x hx => hsb0 x (fl_unfold x hx)
                    have hcall := r14_Pushes_w a_j_0_Items c_j_0_Items j_0_Items j_0_Weight p_1_Steps a_p_1_Codes c_p_1_Codes p_1_Codes _ w48 (fl [[b33], [b27], [b5], [b3], M]) (MS.fold (P := []) hpk) (hs_j_0_Items.sub hsb) (hs_p_1_Codes.sub hsb) hx
                    refine x_call 40 #[] #[] [.agg #[.slice a_j_0_Items (j_0_Items).length c_j_0_Items, .int .i64 j_0_Weight], .agg #[.int .i64 p_1_Steps, .slice a_p_1_Codes (p_1_Codes).length c_p_1_Codes]] _ rfl rfl rfl rfl hcall ?_
                    rintro v w50 ⟨rfl, he50⟩
                    clear hcall hx
                    refine ⟨.inl rfl, ?_⟩
                    have hst := Stp.ext (ls := [[b33], [b27], [b5], [b3], M]) he50
                    replace hs_j_0_Items := hs_j_0_Items.step hst
                    replace hs_p_1_Codes := hs_p_1_Codes.step hst
                    replace hb3 := he50.box hb3 (fun h => by cases h)
                    replace hb5 := he50.box hb5 (fun h => by cases h)
                    replace hf25_1 := hf25_1.step hst
                    replace hb27 := he50.box hb27 (fun h => by cases h)
                    replace hf31_1 := hf31_1.step hst
                    replace hb33 := he50.box hb33 (fun h => by cases h)
                    replace hms := hms.ev he50
                    replace hev := hev.ext he50
                    clear hpk hsb hsb0
                    refine x_pure 5 [(120, .tuple #[.int .i64 x49.1, .int .i64 x49.2]), (124, .int .i64 x49.1), (125, .int .i64 x49.2), (20, .int .i64 x49.1), (12, .int .i64 x49.2)] _ _ _ (by kernel_rfl) ?_
                    refine x_end rfl ?_
                    refine k_then ?_
                    refine c_norm [(9, .int .i64 x47.2), (12, .int .i64 x49.2), (19, .int .i64 x47.1), (20, .int .i64 x49.1)] ⟨rfl, rfl, rfl, rfl, trivial⟩ (fun J => ?_)
                    refine c_seq ?_
                    refine c_plain ?_
                    refine x_pure 4 [(126, .int .i64 x47.1), (127, .int .i64 x49.1), (128, .bool (x47.1 == x49.1)), (129, .bool (x47.1 == x49.1))] _ _ _ (by kernel_rfl) ?_
                    refine x_split 129 (x47.1 == x49.1) rfl (fun hb => ?_) (fun hb => ?_)
                    · replace h := ite_t hb h
                      refine x_pure 5 [(130, .int .i64 x47.2), (131, .int .i64 x49.2), (132, .bool (x47.2 == x49.2)), (133, .bool (x47.2 == x49.2)), (6, .bool (x47.2 == x49.2))] _ _ _ (by kernel_rfl) ?_
                      refine x_end rfl ?_
                      refine k_then ?_
                      refine c_norm [(6, .bool (x47.2 == x49.2))] ⟨rfl, trivial⟩ (fun J => ?_)
                      refine c_ret ?_
                      refine r_ret (r_vals [.bool (x47.2 == x49.2)] ⟨rfl, trivial⟩ ?_)
                      have hx := some_inj h
                      subst hx
                      have hmr : MS w50 [M] := hms.pick [some 4] _ rfl
                      have hsu : ∀ x ∈ fl [M], x ∈ fl [[b33], [b27], [b5], [b3], M] := pick_sub [some 4] _ rfl
                      exact ⟨rfl, hev⟩
                    · replace h := ite_f hb h
                      refine x_pure 5 [(130, undef), (131, undef), (132, undef), (133, .bool false), (6, .bool false)] _ _ _ (by kernel_rfl) ?_
                      refine x_end rfl ?_
                      refine k_then ?_
                      refine c_norm [(6, .bool false)] ⟨rfl, trivial⟩ (fun J => ?_)
                      refine c_ret ?_
                      refine r_ret (r_vals [.bool false] ⟨rfl, trivial⟩ ?_)
                      have hx := some_inj h
                      subst hx
                      have hmr : MS w50 [M] := hms.pick [some 4] _ rfl
                      have hsu : ∀ x ∈ fl [M], x ∈ fl [[b33], [b27], [b5], [b3], M] := pick_sub [some 4] _ rfl
                      exact ⟨rfl, hev⟩
end Go.Proofs.Ytmjobkpgnhbcbaa
