/- Walks, printed by program: each function returns what the partial function of the same name returns. Conditions: those of each theorem. -/
import Derived.Test.YtmjobkpgnhbcbaaGT
import Derived.Test.YtmjobkpgnhbcbaaGcode
import Derived.Test.YtmjobkpgnhbcbaaGjob
set_option linter.unusedVariables false
set_option linter.unusedSimpArgs false
set_option maxRecDepth 4000
namespace Go.Proofs.Ytmjobkpgnhbcbaa
open Go Go.V Go.Proofs
def leastcode_relations_J24 (t14__s14_l6 : Int) (d5_l17 : List (List Int)) (t29__s29_l17 : Int) (t48__s48_j24 : Bool) : Option (Step ((List (List Int)) × Int) (List (List Int))) :=
(if t48__s48_j24 = true then
some (.next (d5_l17, IntKind.i64.wrap (t29__s29_l17 + 1)))
else
(if (decide (t29__s29_l17 < t14__s14_l6)) = true then
((idx d5_l17 t14__s14_l6).bind fun x25 =>
((idx x25 t29__s29_l17).bind fun x27 =>
some (.next ((d5_l17.set (Int.toNat t14__s14_l6) (x25.set (Int.toNat t29__s29_l17) 2)), IntKind.i64.wrap (t29__s29_l17 + 1)))))
else
((idx d5_l17 t14__s14_l6).bind fun x30 =>
((idx x30 t29__s29_l17).bind fun x32 =>
some (.next ((d5_l17.set (Int.toNat t14__s14_l6) (x30.set (Int.toNat t29__s29_l17) 1)), IntKind.i64.wrap (t29__s29_l17 + 1)))))))

def leastcode_relations_J19 (t14__s14_l6 : Int) (d5_l17 : List (List Int)) (t29__s29_l17 : Int) (e25_j19_0 : Int) (e25_j19_1 : Int) (e25_j19_2 : Int) (e25_j19_3 : Int) (e27_j19_0 : Int) (e27_j19_1 : Int) (e27_j19_2 : Int) (e27_j19_3 : Int) : Option (Step ((List (List Int)) × Int) (List (List Int))) :=
(if (e25_j19_0 != e27_j19_0) = true then
leastcode_relations_J24 t14__s14_l6 d5_l17 t29__s29_l17 true
else
leastcode_relations_J24 t14__s14_l6 d5_l17 t29__s29_l17 (decide (e25_j19_1 ≥ e27_j19_1)))

def leastcode_relations_L17 (p0_0 : List (Int × Int × Int × Int)) (t14__s14_l6 : Int) (x15 : List Int) (s : (List (List Int)) × Int) : Option (Step ((List (List Int)) × Int) (List (List Int))) :=
match s with
| (d5_l17, t29__s29_l17) =>
(if (decide (t29__s29_l17 < ((x15).length : Int))) = true then
((idx p0_0 t14__s14_l6).bind fun x20 =>
((idx p0_0 t29__s29_l17).bind fun x22 =>
leastcode_relations_J19 t14__s14_l6 d5_l17 t29__s29_l17 x20.1 x20.2.1 x20.2.2.1 x20.2.2.2 x22.1 x22.2.1 x22.2.2.1 x22.2.2.2))
else
some (.done d5_l17))

def leastcode_relations_L6 (p0_0 : List (Int × Int × Int × Int)) (s : (List (List Int)) × Int) : Option (Step ((List (List Int)) × Int) (List (List Int))) :=
match s with
| (d5_l6, t14__s14_l6) =>
(if (decide (t14__s14_l6 < (((List.replicate (Int.toNat ((p0_0).length : Int)) ([] : List Int))).length : Int))) = true then
(if (0 : Int) ≤ ((p0_0).length : Int) ∧ (((p0_0).length : Int) : Int) ≤ 4294967296 then
((idx d5_l6 t14__s14_l6).bind fun x10 =>
((idx (d5_l6.set (Int.toNat t14__s14_l6) (List.replicate (Int.toNat ((p0_0).length : Int)) 0 : List Int)) t14__s14_l6).bind fun x15 =>
((loop (leastcode_relations_L17 p0_0 t14__s14_l6 x15) ((d5_l6.set (Int.toNat t14__s14_l6) (List.replicate (Int.toNat ((p0_0).length : Int)) 0 : List Int)), 0)).bind fun d => match d with
| d5_x17 => some (.next (d5_x17, IntKind.i64.wrap (t14__s14_l6 + 1))))))
else none)
else
some (.done d5_l6))

def leastcode_relations (p0_0 : List (Int × Int × Int × Int)) (p0_1 : Int) : Option (List (List Int)) :=
(if (0 : Int) ≤ ((p0_0).length : Int) ∧ (((p0_0).length : Int) : Int) ≤ 4294967296 then
((loop (leastcode_relations_L6 p0_0) ((List.replicate (Int.toNat ((p0_0).length : Int)) ([] : List Int)), 0)).bind fun d => match d with
| d5_x6 => some d5_x6)
else none)

theorem leastcode_relations_w (a_p0_0 : Option Addr) (c_p0_0 : Nat) (p0_0 : List (Int × Int × Int × Int)) (p0_1 : Int) (r : (List (List Int))) (w : World) (M : List Nat) (hms : MS w [M]) (hs_p0_0 : SlR (eProd (eInt .i64) (eProd (eInt .i64) (eProd (eInt .i64) (eInt .i64)))) w (fl [M]) a_p0_0 c_p0_0 p0_0) (h : leastcode_relations p0_0 p0_1 = some r) : CallVC Try.prog 43 [.agg #[.slice a_p0_0 (p0_0).length c_p0_0, .int .i64 p0_1]] w fun v w' => ∃ (a0' : Option Addr), ∃ (c0' : Nat), ∃ (B2' : List Nat), v = .slice a0' (r).length c0' ∧ Ev [] w w' ∧ MS w' [B2', M] ∧ FR w.heap.size [B2'] ∧ OwnR (eInt .i64) 3 22 w' B2' a0' c0' r none := by
  refine calls_vc hmx Try.func43 (by kernel_rfl) rfl (rs := [.tmp 2]) rfl (by kernel_rfl) (args := [.agg #[.slice a_p0_0 (p0_0).length c_p0_0, .int .i64 p0_1]]) rfl ?_
  have hev : Ev [] w w := Ev.refl _ _
  have hfr : FR w.heap.size [] := FR.nil _
  refine c_seq (c_plain ?_)
  refine x_box (xv := .agg #[.slice a_p0_0 (p0_0).length c_p0_0, .int .i64 p0_1]) rfl rfl rfl (fun b2 w2 hq2 hb2 he2 hz2 => ?_)
  replace hb2 : w2.heap[b2]? = some (.cells #[.slice a_p0_0 (p0_0).length c_p0_0, .int .i64 p0_1] 27 (0, 0)) := hb2
  refine ⟨.inl rfl, ?_⟩
  have hst := Stp.box (ls := [M]) he2 hq2
  replace hs_p0_0 := hs_p0_0.step hst
  replace hms := hms.box he2 hq2 hb2
  replace hfr := hfr.box hev.size hq2
  replace hev := hev.ext he2
  refine x_pure 1 [(2, .slice none 0 0)] _ _ _ (by kernel_rfl) ?_
  refine x_end rfl (k_then ?_)
  refine c_seq (c_plain ?_)
  refine x_fieldAddr (xv := .pointer (some ⟨b2, 0, none⟩)) (.pointer (some ⟨b2, 0, none⟩)) rfl rfl rfl (reads_field tfld27_0 _ _) ?_
  refine x_load (xv := .pointer (some ⟨b2, 0, none⟩)) (.slice a_p0_0 (p0_0).length c_p0_0) rfl rfl rfl (reads_box tcell25 hb2 nn 0 _ rfl) ?_
  refine x_len (vs := [.slice a_p0_0 (p0_0).length c_p0_0]) (.int .i64 ((p0_0).length : Int)) rfl rfl rfl (reads_len tsl25 _ _ _ _ _) ?_
  have hg := guard_l h
  replace h := guard_r h
  obtain ⟨a4, c4, w4, B4, hr4, he4, hn4, ho4⟩ := OwnR.mk (P := Try.prog) (T := 3) (eInt .i64) tel32 w2 ((p0_0).length : Int) hg.1 hg.2
  refine x_makeSlice _ w4 (xv := .int .i64 ((p0_0).length : Int)) (yv := .int .i64 ((p0_0).length : Int)) rfl rfl rfl rfl hr4 ?_
  refine ⟨.inl rfl, ?_⟩
  have hst := Stp.push (ls := [[b2], M]) (l := B4) he4 (fun _ h => by cases h) (fun b hb => (hn4 b hb).1)
  replace hs_p0_0 := hs_p0_0.step hst
  replace hb2 := he4.box hb2 nn
  replace hms := hms.push he4 hn4
  replace hfr := hfr.push (fun b hb => Nat.le_trans hev.size (hn4 b hb).1)
  replace hev := hev.ext he4
  refine x_pure 1 [(3, .slice a4 ((List.replicate (Int.toNat ((p0_0).length : Int)) ([] : List Int))).length c4)] _ _ _ (by kernel_rfl) ?_
  refine x_end rfl (k_then ?_)
  refine c_seq ?_
  refine c_seq (c_plain ?_)
  refine x_pure 1 [(12, .slice a4 ((List.replicate (Int.toNat ((p0_0).length : Int)) ([] : List Int))).length c4)] _ _ _ (by kernel_rfl) ?_
  refine x_len (vs := [.slice a4 ((List.replicate (Int.toNat ((p0_0).length : Int)) ([] : List Int))).length c4]) (.int .i64 (((List.replicate (Int.toNat ((p0_0).length : Int)) ([] : List Int))).length : Int)) rfl rfl rfl (reads_len tsl32 _ _ _ _ _) ?_
  refine x_pure 1 [(14, .int .i64 0)] _ _ _ (by kernel_rfl) ?_
  refine x_end rfl (k_then ?_)
  refine c_block ?_
  have hpk : MS w4 [[b2], B4, M] := hms.pick [some 1, some 0, some 2] _ rfl
  have hsu : ∀ x ∈ fl [[b2], B4, M], x ∈ fl [B4, [b2], M] := pick_sub [some 1, some 0, some 2] _ rfl
  replace hs_p0_0 := hs_p0_0.sub hsu
  replace hms := hpk
  replace hfr : FR w.heap.size [[b2], B4] := hfr.pick [some 1, some 0] _ rfl
  clear hpk hsu
  obtain ⟨d6, hd6, h6⟩ := bind_some h
  obtain ⟨m6, hd6⟩ := loop_some hd6
  refine c_loop (loop_rule hmx (σ := Nat × (List (List Int)) × Int × List Nat) (fun s => match s with | (_, d5_l6, t14__s14_l6, B5_l6) => [(1, .pointer (some ⟨b2, 0, none⟩)), (3, .slice a4 (d5_l6).length c4), (13, .int .i64 (((List.replicate (Int.toNat ((p0_0).length : Int)) ([] : List Int))).length : Int)), (14, .int .i64 t14__s14_l6)]) (fun s w' => match s with | (m, d5_l6, t14__s14_l6, B5_l6) => loopN (leastcode_relations_L6 p0_0) m (d5_l6, t14__s14_l6) = some d6 ∧ Ev [] w w' ∧ MS w' [[b2], B5_l6, M] ∧ FR w.heap.size [[b2], B5_l6] ∧ SlR (eProd (eInt .i64) (eProd (eInt .i64) (eProd (eInt .i64) (eInt .i64)))) w' (fl [[b2], B5_l6, M]) a_p0_0 c_p0_0 p0_0 ∧ w'.heap[b2]? = some (.cells #[.slice a_p0_0 (p0_0).length c_p0_0, .int .i64 p0_1] 27 (0, 0)) ∧ OwnR (eInt .i64) 3 22 w' B5_l6 a4 c4 d5_l6 none) (fun s => s.1) (m6, (List.replicate (Int.toNat ((p0_0).length : Int)) ([] : List Int)), 0, B4) ⟨rfl, rfl, rfl, rfl, trivial⟩ ⟨hd6, hev, hms, hfr, hs_p0_0, hb2, ho4⟩ ?_)
  rintro ⟨m6, d5_l6, t14__s14_l6, B5_l6⟩ J wl6 ⟨hn6, hev, hms, hfr, hs_p0_0, hb2, ho4⟩
  rcases m6 with _ | m6
  · exact (loopN_zero hn6).elim
  obtain ⟨t6, h, hn6⟩ := bind_some hn6
  refine c_seq (c_plain ?_)
  refine x_pure 1 [(15, .bool (decide (t14__s14_l6 < (((List.replicate (Int.toNat ((p0_0).length : Int)) ([] : List Int))).length : Int))))] _ _ _ (by kernel_rfl) ?_
  refine x_end rfl (k_then ?_)
  refine c_norm [(1, .pointer (some ⟨b2, 0, none⟩)), (3, .slice a4 (d5_l6).length c4), (13, .int .i64 (((List.replicate (Int.toNat ((p0_0).length : Int)) ([] : List Int))).length : Int)), (14, .int .i64 t14__s14_l6), (15, .bool (decide (t14__s14_l6 < (((List.replicate (Int.toNat ((p0_0).length : Int)) ([] : List Int))).length : Int))))] ⟨rfl, rfl, rfl, rfl, rfl, trivial⟩ (fun J => ?_)
  refine c_seq ?_
  refine c_cond (decide (t14__s14_l6 < (((List.replicate (Int.toNat ((p0_0).length : Int)) ([] : List Int))).length : Int))) rfl (fun hb => ?_) (fun hb => ?_)
  · replace h := ite_t hb h
    refine c_skip ?_
    refine k_then ?_
    refine c_seq ?_
    refine c_block ?_
    refine c_seq (c_plain ?_)
    refine x_pure 2 [(16, .int .i64 t14__s14_l6), (4, .int .i64 t14__s14_l6)] _ _ _ (by kernel_rfl) ?_
    refine x_end rfl (k_then ?_)
    refine c_seq (c_plain ?_)
    refine x_pure 2 [(17, .slice a4 (d5_l6).length c4), (18, .int .i64 t14__s14_l6)] _ _ _ (by kernel_rfl) ?_
    refine x_fieldAddr (xv := .pointer (some ⟨b2, 0, none⟩)) (.pointer (some ⟨b2, 0, none⟩)) rfl rfl rfl (reads_field tfld27_0 _ _) ?_
    refine x_load (xv := .pointer (some ⟨b2, 0, none⟩)) (.slice a_p0_0 (p0_0).length c_p0_0) rfl rfl rfl (reads_box tcell25 hb2 nn 0 _ rfl) ?_
    refine x_len (vs := [.slice a_p0_0 (p0_0).length c_p0_0]) (.int .i64 ((p0_0).length : Int)) rfl rfl rfl (reads_len tsl25 _ _ _ _ _) ?_
    have hg := guard_l h
    replace h := guard_r h
    obtain ⟨a8, c8, w8, hr8, he8, hn8, hw8⟩ := own_make (e := (eInt .i64)) tel22 wl6 ((p0_0).length : Int) hg.1 hg.2 0 (fun _ _ => rfl)
    refine x_makeSlice _ w8 (xv := .int .i64 ((p0_0).length : Int)) (yv := .int .i64 ((p0_0).length : Int)) rfl rfl rfl rfl hr8 ?_
    refine ⟨.inl rfl, ?_⟩
    have hst := Stp.push (ls := [[b2], B5_l6, M]) (l := blk a8) he8 (fun _ h => by cases h) (fun b hb => (hn8 b hb).1)
    replace hb2 := he8.box hb2 nn
    replace hs_p0_0 := hs_p0_0.step hst
    replace ho4 := ho4.step (plain_int _) he8 nn2
    replace hms := hms.push he8 hn8
    replace hfr := hfr.push (fun b hb => Nat.le_trans hev.size (hn8 b hb).1)
    replace hev := hev.ext he8
    have ho8 := hw8 (fl [blk a8, [b2], B5_l6, M])
    clear hw8
    obtain ⟨x10, hx10, h⟩ := bind_some h
    obtain ⟨g10, ai10, ci10, hr10, hv10⟩ := OwnR.view (P := Try.prog) (Mo := []) tsl32 ho4 hx10
    refine x_indexAddr (xv := .slice a4 (d5_l6).length c4) (yv := .int .i64 t14__s14_l6) (.pointer (some ⟨g10, (Int.toNat t14__s14_l6), none⟩)) rfl rfl rfl rfl hr10 ?_
    obtain ⟨B12, hR12, ho12, hs1, hs2, hs3⟩ := OwnR.opn ho4 hv10
    replace ho4 := hR12
    have hms2 := hms.split 2 rfl hs2 hs1 hs3
    have hsu : ∀ x ∈ fl [blk ai10, blk a8, [b2], B12, M], x ∈ fl [blk a8, [b2], B5_l6, M] := split_sub (ls := [blk a8, [b2], B5_l6, M]) 2 rfl hs2 hs1
    replace hms : MS w8 [blk ai10, blk a8, [b2], B12, M] := hms2
    replace hfr : FR w.heap.size [blk ai10, blk a8, [b2], B12] := (hfr.upd 2 rfl hev.size (fun b hb => .inl (hs1 b hb))).push (fun b hb => hfr.at 2 rfl b (hs2 b hb))
    replace hs_p0_0 := hs_p0_0.sub hsu
    replace ho8 := ho8.sub hsu
    replace ho12 := OwnS.plain (M' := fl [blk ai10, blk a8, [b2], B12, M]) (plain_int _) ho12
    have hg12 := hv10.eq
    have hx12 := hv10.at_
    clear hv10 hms2 hs1 hs2 hs3 hsu
    obtain ⟨w14, B14, hr14, he14, hn14, hR14⟩ := OwnR.cls (P := Try.prog) (plain_int _) tcell22 ho4 hg12 hx12 ho8 (hms.apart 1 3 rfl rfl rfl) (hms.ltat 3 rfl)
    refine x_store w14 (xv := .pointer (some ⟨g10, (Int.toNat t14__s14_l6), none⟩)) (yv := .slice a8 ((List.replicate (Int.toNat ((p0_0).length : Int)) 0 : List Int)).length c8) rfl rfl rfl rfl hr14 ?_
    refine ⟨.inl rfl, ?_⟩
    have hms2 := hms.merge (C := blk a8 ++ B12) 1 3 rfl rfl (fun x hx => List.mem_append.1 hx)
    replace hfr : FR w.heap.size [blk ai10, [b2], blk a8 ++ B12] := (FR.cons (hfr.at 0 rfl) (FR.cons (hfr.at 2 rfl) (FR.cons (fun b hb => (List.mem_append.1 hb).elim (hfr.at 1 rfl b) (hfr.at 3 rfl b)) (FR.nil _))))
    have hsu : ∀ x ∈ fl [blk ai10, [b2], blk a8 ++ B12, M], x ∈ fl [blk ai10, blk a8, [b2], B12, M] := merge_sub (ls := [blk ai10, blk a8, [b2], B12, M]) (C := blk a8 ++ B12) 1 3 rfl rfl (fun x hx => List.mem_append.1 hx)
    replace hms : MS w8 [blk ai10, [b2], blk a8 ++ B12, M] := hms2
    replace hs_p0_0 := hs_p0_0.sub hsu
    replace ho12 := ho12.sub hsu
    clear hms2 hsu
    have hst : Stp (fl [blk ai10, [b2], blk a8 ++ B12, M]) w8 (fl [blk ai10, [b2], B14, M]) w14 := Stp.upd 2 he14 rfl (fun b hb => (hn14 b hb).1)
    replace hb2 := he14.box hb2 (hms.apart 1 2 rfl rfl rfl _ (List.mem_singleton.2 rfl))
    replace hs_p0_0 := hs_p0_0.step hst
    replace ho12 := ho12.step hst he14 (hms.apart 0 2 rfl rfl rfl)
    replace hms : MS w14 [blk ai10, [b2], B14, M] := hms.upd 2 he14 rfl hn14
    have hfr2 : FR w.heap.size [blk ai10, [b2], B14] := hfr.upd 2 rfl hev.size (fun b hb => (hn14 b hb).1)
    replace hev := hev.then he14 (fun b hb => .inr (hfr.at 2 rfl b hb))
    replace hfr := hfr2
    clear hfr2
    replace ho4 := hR14
    have hsl : (Value.slice a4 (d5_l6).length c4) = (Value.slice a4 ((d5_l6.set (Int.toNat t14__s14_l6) (List.replicate (Int.toNat ((p0_0).length : Int)) 0 : List Int))).length c4) := by first | (rw [List.length_set]; done) | simp only [List.length_set]
    try rw [hsl]
    clear hsl
    refine x_end rfl (k_then ?_)
    refine c_seq (c_plain ?_)
    refine x_pure 2 [(24, .slice a4 ((d5_l6.set (Int.toNat t14__s14_l6) (List.replicate (Int.toNat ((p0_0).length : Int)) 0 : List Int))).length c4), (25, .int .i64 t14__s14_l6)] _ _ _ (by kernel_rfl) ?_
    obtain ⟨x15, hx15, h⟩ := bind_some h
    obtain ⟨g15, ai15, ci15, hr15, hv15⟩ := OwnR.view (P := Try.prog) (Mo := []) tsl32 ho4 hx15
    refine x_indexAddr (xv := .slice a4 ((d5_l6.set (Int.toNat t14__s14_l6) (List.replicate (Int.toNat ((p0_0).length : Int)) 0 : List Int))).length c4) (yv := .int .i64 t14__s14_l6) (.pointer (some ⟨g15, (Int.toNat t14__s14_l6), none⟩)) rfl rfl rfl rfl hr15 ?_
    refine x_load (xv := .pointer (some ⟨g15, (Int.toNat t14__s14_l6), none⟩)) (.slice ai15 (x15).length ci15) rfl rfl rfl (RView.load tcell22 hv15) ?_
    refine x_len (vs := [.slice ai15 (x15).length ci15]) (.int .i64 ((x15).length : Int)) rfl rfl rfl (reads_len tsl22 _ _ _ _ _) ?_
    refine x_pure 1 [(29, .int .i64 0)] _ _ _ (by kernel_rfl) ?_
    refine x_end rfl (k_then ?_)
    refine c_norm [(1, .pointer (some ⟨b2, 0, none⟩)), (3, .slice a4 ((d5_l6.set (Int.toNat t14__s14_l6) (List.replicate (Int.toNat ((p0_0).length : Int)) 0 : List Int))).length c4), (4, .int .i64 t14__s14_l6), (13, .int .i64 (((List.replicate (Int.toNat ((p0_0).length : Int)) ([] : List Int))).length : Int)), (14, .int .i64 t14__s14_l6), (28, .int .i64 ((x15).length : Int)), (29, .int .i64 0)] ⟨rfl, rfl, rfl, rfl, rfl, rfl, rfl, trivial⟩ (fun J => ?_)
    refine c_block ?_
    have hpk : MS w14 [[b2], B14, M] := hms.pick [some 1, some 2, some 3] _ rfl
    have hsu : ∀ x ∈ fl [[b2], B14, M], x ∈ fl [blk ai10, [b2], B14, M] := pick_sub [some 1, some 2, some 3] _ rfl
    replace hs_p0_0 := hs_p0_0.sub hsu
    replace hms := hpk
    replace hfr : FR w.heap.size [[b2], B14] := hfr.pick [some 1, some 2] _ rfl
    clear hpk hsu
    obtain ⟨d17, hd17, h17⟩ := bind_some h
    obtain ⟨m17, hd17⟩ := loop_some hd17
    refine c_loop (loop_rule hmx (σ := Nat × (List (List Int)) × Int) (fun s => match s with | (_, d5_l17, t29__s29_l17) => [(1, .pointer (some ⟨b2, 0, none⟩)), (3, .slice a4 (d5_l17).length c4), (4, .int .i64 t14__s14_l6), (13, .int .i64 (((List.replicate (Int.toNat ((p0_0).length : Int)) ([] : List Int))).length : Int)), (14, .int .i64 t14__s14_l6), (28, .int .i64 ((x15).length : Int)), (29, .int .i64 t29__s29_l17)]) (fun s w' => match s with | (m, d5_l17, t29__s29_l17) => loopN (leastcode_relations_L17 p0_0 t14__s14_l6 x15) m (d5_l17, t29__s29_l17) = some d17 ∧ Ev [] w w' ∧ MS w' [[b2], B14, M] ∧ FR w.heap.size [[b2], B14] ∧ SlR (eProd (eInt .i64) (eProd (eInt .i64) (eProd (eInt .i64) (eInt .i64)))) w' (fl [[b2], B14, M]) a_p0_0 c_p0_0 p0_0 ∧ w'.heap[b2]? = some (.cells #[.slice a_p0_0 (p0_0).length c_p0_0, .int .i64 p0_1] 27 (0, 0)) ∧ OwnR (eInt .i64) 3 22 w' B14 a4 c4 d5_l17 none) (fun s => s.1) (m17, (d5_l6.set (Int.toNat t14__s14_l6) (List.replicate (Int.toNat ((p0_0).length : Int)) 0 : List Int)), 0) ⟨rfl, rfl, rfl, rfl, rfl, rfl, rfl, trivial⟩ ⟨hd17, hev, hms, hfr, hs_p0_0, hb2, ho4⟩ ?_)
    rintro ⟨m17, d5_l17, t29__s29_l17⟩ J wl17 ⟨hn17, hev, hms, hfr, hs_p0_0, hb2, ho4⟩
    rcases m17 with _ | m17
    · exact (loopN_zero hn17).elim
    obtain ⟨t17, h, hn17⟩ := bind_some hn17
    refine c_seq (c_plain ?_)
    refine x_pure 1 [(30, .bool (decide (t29__s29_l17 < ((x15).length : Int))))] _ _ _ (by kernel_rfl) ?_
    refine x_end rfl (k_then ?_)
    refine c_norm [(1, .pointer (some ⟨b2, 0, none⟩)), (3, .slice a4 (d5_l17).length c4), (4, .int .i64 t14__s14_l6), (13, .int .i64 (((List.replicate (Int.toNat ((p0_0).length : Int)) ([] : List Int))).length : Int)), (14, .int .i64 t14__s14_l6), (28, .int .i64 ((x15).length : Int)), (29, .int .i64 t29__s29_l17), (30, .bool (decide (t29__s29_l17 < ((x15).length : Int))))] ⟨rfl, rfl, rfl, rfl, rfl, rfl, rfl, rfl, trivial⟩ (fun J => ?_)
    refine c_seq ?_
    refine c_cond (decide (t29__s29_l17 < ((x15).length : Int))) rfl (fun hb => ?_) (fun hb => ?_)
    · replace h := ite_t hb h
      refine c_skip ?_
      refine k_then ?_
      refine c_seq ?_
      refine c_block ?_
      refine c_seq (c_plain ?_)
      refine x_pure 2 [(31, .int .i64 t29__s29_l17), (5, .int .i64 t29__s29_l17)] _ _ _ (by kernel_rfl) ?_
      refine x_end rfl (k_then ?_)
      refine c_join (σ := Int × Int × Int × Int × Int × Int × Int × Int × Nat × Nat) (fun s => match s with | (e25_j19_0, e25_j19_1, e25_j19_2, e25_j19_3, e27_j19_0, e27_j19_1, e27_j19_2, e27_j19_3, b25_j19, b27_j19) => [(1, .pointer (some ⟨b2, 0, none⟩)), (3, .slice a4 (d5_l17).length c4), (4, .int .i64 t14__s14_l6), (5, .int .i64 t29__s29_l17), (6, .pointer (some ⟨b25_j19, 0, none⟩)), (7, .pointer (some ⟨b27_j19, 0, none⟩)), (13, .int .i64 (((List.replicate (Int.toNat ((p0_0).length : Int)) ([] : List Int))).length : Int)), (14, .int .i64 t14__s14_l6), (28, .int .i64 ((x15).length : Int)), (29, .int .i64 t29__s29_l17)]) (fun s w' => match s with | (e25_j19_0, e25_j19_1, e25_j19_2, e25_j19_3, e27_j19_0, e27_j19_1, e27_j19_2, e27_j19_3, b25_j19, b27_j19) => leastcode_relations_J19 t14__s14_l6 d5_l17 t29__s29_l17 e25_j19_0 e25_j19_1 e25_j19_2 e25_j19_3 e27_j19_0 e27_j19_1 e27_j19_2 e27_j19_3 = some t17 ∧ Ev [] w w' ∧ MS w' [[b2], B14, [b25_j19], [b27_j19], M] ∧ FR w.heap.size [[b2], B14, [b25_j19], [b27_j19]] ∧ SlR (eProd (eInt .i64) (eProd (eInt .i64) (eProd (eInt .i64) (eInt .i64)))) w' (fl [[b2], B14, [b25_j19], [b27_j19], M]) a_p0_0 c_p0_0 p0_0 ∧ w'.heap[b2]? = some (.cells #[.slice a_p0_0 (p0_0).length c_p0_0, .int .i64 p0_1] 27 (0, 0)) ∧ OwnR (eInt .i64) 3 22 w' B14 a4 c4 d5_l17 none ∧ w'.heap[b25_j19]? = some (.cells #[.int .i64 e25_j19_0, .int .i64 e25_j19_1, .int .i64 e25_j19_2, .int .i64 e25_j19_3] 39 (0, 0)) ∧ w'.heap[b27_j19]? = some (.cells #[.int .i64 e27_j19_0, .int .i64 e27_j19_1, .int .i64 e27_j19_2, .int .i64 e27_j19_3] 39 (0, 0))) ?_ ?_
      · refine c_drawnp (newmo (wl17).drew) [(0, false), (1, false), (2, false), (3, false), (4, false), (5, false), (6, false), (7, false), (8, false), (9, false)] (.alt 10 false (opsThen [(11, false), (12, false), (13, true)] .stop) (.alt 11 false (opsThen [(10, false), (12, false), (13, true)] .stop) .none_)) _ (by kernel_rfl) rfl ?_
        have hst := Stp.ext (ls := [[b2], B14, M]) (Ev.drew wl17)
        replace hb2 := (Ev.drew wl17).box hb2 nn
        replace hs_p0_0 := hs_p0_0.step hst
        replace ho4 := ho4.step (plain_int _) (Ev.drew wl17) nn2
        replace hms := hms.ev (Ev.drew wl17)
        replace hev := hev.ext (Ev.drew wl17)
        have hnz : ((wl17).drew).heap.size = ((wl17).drew).heap.size + 0 := rfl
        refine x_fieldAddr (xv := .pointer (some ⟨b2, 0, none⟩)) (.pointer (some ⟨b2, 0, none⟩)) rfl rfl rfl (reads_field tfld27_0 _ _) ?_
        refine x_load (xv := .pointer (some ⟨b2, 0, none⟩)) (.slice a_p0_0 (p0_0).length c_p0_0) rfl rfl rfl (reads_box tcell25 hb2 ((newmo_out (hms.ltat 0 rfl)) _ (List.mem_singleton.2 rfl)) 0 _ rfl) ?_
        refine x_pure 1 [(34, .int .i64 t14__s14_l6)] _ _ _ (by kernel_rfl) ?_
        obtain ⟨x20, hx20, h⟩ := bind_some h
        obtain ⟨ad20, cs20, hr20, hc20, hR⟩ := reads_index (Mo := (newmo (wl17).drew)) tsl25 hs_p0_0 hx20
        obtain ⟨_, _, rfl, rfl, ⟨_, _, rfl, rfl, ⟨_, _, rfl, rfl, rfl⟩⟩⟩ := hR
        refine x_indexAddr (xv := .slice a_p0_0 (p0_0).length c_p0_0) (yv := .int .i64 t14__s14_l6) (.pointer (some ad20)) rfl rfl rfl rfl hr20 ?_
        refine x_load (xv := .pointer (some ad20)) (.agg #[.int .i64 x20.1, .int .i64 x20.2.1, .int .i64 x20.2.2.1, .int .i64 x20.2.2.2]) rfl rfl rfl (reads_agg tagg39 (CellsAt.newer hc20) (fun b hb => hb)) ?_
        refine x_fieldAddr (xv := .pointer (some ⟨b2, 0, none⟩)) (.pointer (some ⟨b2, 0, none⟩)) rfl rfl rfl (reads_field tfld27_0 _ _) ?_
        refine x_load (xv := .pointer (some ⟨b2, 0, none⟩)) (.slice a_p0_0 (p0_0).length c_p0_0) rfl rfl rfl (reads_box tcell25 hb2 ((newmo_out (hms.ltat 0 rfl)) _ (List.mem_singleton.2 rfl)) 0 _ rfl) ?_
        refine x_pure 1 [(39, .int .i64 t29__s29_l17)] _ _ _ (by kernel_rfl) ?_
        obtain ⟨x22, hx22, h⟩ := bind_some h
        obtain ⟨ad22, cs22, hr22, hc22, hR⟩ := reads_index (Mo := (newmo (wl17).drew)) tsl25 hs_p0_0 hx22
        obtain ⟨_, _, rfl, rfl, ⟨_, _, rfl, rfl, ⟨_, _, rfl, rfl, rfl⟩⟩⟩ := hR
        refine x_indexAddr (xv := .slice a_p0_0 (p0_0).length c_p0_0) (yv := .int .i64 t29__s29_l17) (.pointer (some ad22)) rfl rfl rfl rfl hr22 ?_
        refine x_load (xv := .pointer (some ad22)) (.agg #[.int .i64 x22.1, .int .i64 x22.2.1, .int .i64 x22.2.2.1, .int .i64 x22.2.2.2]) rfl rfl rfl (reads_agg tagg39 (CellsAt.newer hc22) (fun b hb => hb)) ?_
        refine x_end rfl ?_
        refine t_alt _ rfl ?_ ?_
        · refine x_alloc (z := .agg #[.int .i64 0, .int .i64 0, .int .i64 0, .int .i64 0]) rfl rfl (by kernel_rfl) (fun b24 w24 hq24 hb24 he24 hz24 => ?_)
          replace hb24 : w24.heap[b24]? = some (.cells #[.int .i64 0, .int .i64 0, .int .i64 0, .int .i64 0] 39 (0, 0)) := hb24
          refine ⟨.inr (he24.nil), ?_⟩
          have hns24 : w24.heap.size = b24 + 1 := hz24
          have hnb24 : b24 = ((wl17).drew).heap.size + 0 := by omega
          replace hnz : w24.heap.size = ((wl17).drew).heap.size + 1 := by omega
          have hst := Stp.box (ls := [[b2], B14, M]) he24 hq24
          replace hb2 := he24.box hb2 nn
          replace hs_p0_0 := hs_p0_0.step hst
          replace ho4 := ho4.step (plain_int _) he24 nn2
          replace hc20 := hc20.step hst
          replace hc22 := hc22.step hst
          replace hms := hms.box he24 hq24 hb24
          replace hfr := hfr.box hev.size hq24
          replace hev := hev.ext he24
          refine x_alloc (z := .agg #[.int .i64 0, .int .i64 0, .int .i64 0, .int .i64 0]) rfl rfl (by kernel_rfl) (fun b26 w26 hq26 hb26 he26 hz26 => ?_)
          replace hb26 : w26.heap[b26]? = some (.cells #[.int .i64 0, .int .i64 0, .int .i64 0, .int .i64 0] 39 (0, 0)) := hb26
          refine ⟨.inr (he26.nil), ?_⟩
          have hns26 : w26.heap.size = b26 + 1 := hz26
          have hnb26 : b26 = ((wl17).drew).heap.size + 1 := by omega
          replace hnz : w26.heap.size = ((wl17).drew).heap.size + 2 := by omega
          have hst := Stp.box (ls := [[b24], [b2], B14, M]) he26 hq26
          replace hb2 := he26.box hb2 nn
          replace hs_p0_0 := hs_p0_0.step hst
          replace ho4 := ho4.step (plain_int _) he26 nn2
          replace hc20 := hc20.step hst
          replace hc22 := hc22.step hst
          replace hb24 := he26.box hb24 nn
          replace hms := hms.box he26 hq26 hb26
          replace hfr := hfr.box hev.size hq26
          replace hev := hev.ext he26
          obtain ⟨w28, hr28, hb28, he28⟩ := store_boxagg 0 [.int .i64 x20.1, .int .i64 x20.2.1, .int .i64 x20.2.2.1, .int .i64 x20.2.2.2] #[.int .i64 x20.1, .int .i64 x20.2.1, .int .i64 x20.2.2.1, .int .i64 x20.2.2.2] tagg39 hb24 rfl rfl rfl
          refine x_store w28 (xv := .pointer (some ⟨b24, 0, none⟩)) (yv := .agg #[.int .i64 x20.1, .int .i64 x20.2.1, .int .i64 x20.2.2.1, .int .i64 x20.2.2.2]) rfl rfl rfl rfl hr28 ?_
          refine ⟨.inr (he28.sub (fun x hx => by simp only [List.mem_singleton] at hx; subst hx; exact newmo_mem hnb24 rfl)), ?_⟩
          have hst := Stp.ev' (ls := [[b26], [b24], [b2], B14, M]) he28 (mem_flat 1 rfl)
          replace hb2 := he28.box hb2 (hms.apart 2 1 rfl rfl rfl _ (List.mem_singleton.2 rfl))
          replace hs_p0_0 := hs_p0_0.step hst
          replace ho4 := ho4.step (plain_int _) he28 (hms.apart 3 1 rfl rfl rfl)
          replace hc20 := hc20.step hst
          replace hc22 := hc22.step hst
          replace hb26 := he28.box hb26 (hms.apart 0 1 rfl rfl rfl _ (List.mem_singleton.2 rfl))
          replace hms := hms.ev he28
          replace hev := hev.then he28 (fun b hb => .inr (hfr.at 1 rfl b hb))
          replace hb24 := hb28
          obtain ⟨w29, hr29, hb29, he29⟩ := store_boxagg 0 [.int .i64 x22.1, .int .i64 x22.2.1, .int .i64 x22.2.2.1, .int .i64 x22.2.2.2] #[.int .i64 x22.1, .int .i64 x22.2.1, .int .i64 x22.2.2.1, .int .i64 x22.2.2.2] tagg39 hb26 rfl rfl rfl
          refine x_store w29 (xv := .pointer (some ⟨b26, 0, none⟩)) (yv := .agg #[.int .i64 x22.1, .int .i64 x22.2.1, .int .i64 x22.2.2.1, .int .i64 x22.2.2.2]) rfl rfl rfl rfl hr29 ?_
          refine ⟨.inl rfl, ?_⟩
          have hst := Stp.ev' (ls := [[b26], [b24], [b2], B14, M]) he29 (mem_flat 0 rfl)
          replace hb2 := he29.box hb2 (hms.apart 2 0 rfl rfl rfl _ (List.mem_singleton.2 rfl))
          replace hs_p0_0 := hs_p0_0.step hst
          replace ho4 := ho4.step (plain_int _) he29 (hms.apart 3 0 rfl rfl rfl)
          replace hc20 := hc20.step hst
          replace hc22 := hc22.step hst
          replace hb24 := he29.box hb24 (hms.apart 1 0 rfl rfl rfl _ (List.mem_singleton.2 rfl))
          replace hms := hms.ev he29
          replace hev := hev.then he29 (fun b hb => .inr (hfr.at 0 rfl b hb))
          replace hb26 := hb29
          refine x_end rfl ?_
          refine t_stop ?_
          have hpk : MS w29 [[b2], B14, [b24], [b26], M] := hms.pick [some 2, some 3, some 1, some 0, some 4] _ rfl
          have hsu : ∀ x ∈ fl [[b2], B14, [b24], [b26], M], x ∈ fl [[b26], [b24], [b2], B14, M] := pick_sub [some 2, some 3, some 1, some 0, some 4] _ rfl
          replace hs_p0_0 := hs_p0_0.sub hsu
          replace hms := hpk
          replace hfr : FR w.heap.size [[b2], B14, [b24], [b26]] := hfr.pick [some 2, some 3, some 1, some 0] _ rfl
          clear hpk hsu
          exact k_then ⟨(x20.1, x20.2.1, x20.2.2.1, x20.2.2.2, x22.1, x22.2.1, x22.2.2.1, x22.2.2.2, b24, b26), ⟨rfl, rfl, rfl, rfl, rfl, rfl, rfl, rfl, rfl, rfl, trivial⟩, h, hev, hms, hfr, hs_p0_0, hb2, ho4, hb24, hb26⟩
        refine t_alt _ rfl ?_ ?_
        · refine x_alloc (z := .agg #[.int .i64 0, .int .i64 0, .int .i64 0, .int .i64 0]) rfl rfl (by kernel_rfl) (fun b24 w24 hq24 hb24 he24 hz24 => ?_)
          replace hb24 : w24.heap[b24]? = some (.cells #[.int .i64 0, .int .i64 0, .int .i64 0, .int .i64 0] 39 (0, 0)) := hb24
          refine ⟨.inr (he24.nil), ?_⟩
          have hns24 : w24.heap.size = b24 + 1 := hz24
          have hnb24 : b24 = ((wl17).drew).heap.size + 0 := by omega
          replace hnz : w24.heap.size = ((wl17).drew).heap.size + 1 := by omega
          have hst := Stp.box (ls := [[b2], B14, M]) he24 hq24
          replace hb2 := he24.box hb2 nn
          replace hs_p0_0 := hs_p0_0.step hst
          replace ho4 := ho4.step (plain_int _) he24 nn2
          replace hc20 := hc20.step hst
          replace hc22 := hc22.step hst
          replace hms := hms.box he24 hq24 hb24
          replace hfr := hfr.box hev.size hq24
          replace hev := hev.ext he24
          refine x_alloc (z := .agg #[.int .i64 0, .int .i64 0, .int .i64 0, .int .i64 0]) rfl rfl (by kernel_rfl) (fun b26 w26 hq26 hb26 he26 hz26 => ?_)
          replace hb26 : w26.heap[b26]? = some (.cells #[.int .i64 0, .int .i64 0, .int .i64 0, .int .i64 0] 39 (0, 0)) := hb26
          refine ⟨.inr (he26.nil), ?_⟩
          have hns26 : w26.heap.size = b26 + 1 := hz26
          have hnb26 : b26 = ((wl17).drew).heap.size + 1 := by omega
          replace hnz : w26.heap.size = ((wl17).drew).heap.size + 2 := by omega
          have hst := Stp.box (ls := [[b24], [b2], B14, M]) he26 hq26
          replace hb2 := he26.box hb2 nn
          replace hs_p0_0 := hs_p0_0.step hst
          replace ho4 := ho4.step (plain_int _) he26 nn2
          replace hc20 := hc20.step hst
          replace hc22 := hc22.step hst
          replace hb24 := he26.box hb24 nn
          replace hms := hms.box he26 hq26 hb26
          replace hfr := hfr.box hev.size hq26
          replace hev := hev.ext he26
          obtain ⟨w28, hr28, hb28, he28⟩ := store_boxagg 0 [.int .i64 x20.1, .int .i64 x20.2.1, .int .i64 x20.2.2.1, .int .i64 x20.2.2.2] #[.int .i64 x20.1, .int .i64 x20.2.1, .int .i64 x20.2.2.1, .int .i64 x20.2.2.2] tagg39 hb26 rfl rfl rfl
          refine x_store w28 (xv := .pointer (some ⟨b26, 0, none⟩)) (yv := .agg #[.int .i64 x20.1, .int .i64 x20.2.1, .int .i64 x20.2.2.1, .int .i64 x20.2.2.2]) rfl rfl rfl rfl hr28 ?_
          refine ⟨.inr (he28.sub (fun x hx => by simp only [List.mem_singleton] at hx; subst hx; exact newmo_mem hnb26 rfl)), ?_⟩
          have hst := Stp.ev' (ls := [[b26], [b24], [b2], B14, M]) he28 (mem_flat 0 rfl)
          replace hb2 := he28.box hb2 (hms.apart 2 0 rfl rfl rfl _ (List.mem_singleton.2 rfl))
          replace hs_p0_0 := hs_p0_0.step hst
          replace ho4 := ho4.step (plain_int _) he28 (hms.apart 3 0 rfl rfl rfl)
          replace hc20 := hc20.step hst
          replace hc22 := hc22.step hst
          replace hb24 := he28.box hb24 (hms.apart 1 0 rfl rfl rfl _ (List.mem_singleton.2 rfl))
          replace hms := hms.ev he28
          replace hev := hev.then he28 (fun b hb => .inr (hfr.at 0 rfl b hb))
          replace hb26 := hb28
          obtain ⟨w29, hr29, hb29, he29⟩ := store_boxagg 0 [.int .i64 x22.1, .int .i64 x22.2.1, .int .i64 x22.2.2.1, .int .i64 x22.2.2.2] #[.int .i64 x22.1, .int .i64 x22.2.1, .int .i64 x22.2.2.1, .int .i64 x22.2.2.2] tagg39 hb24 rfl rfl rfl
          refine x_store w29 (xv := .pointer (some ⟨b24, 0, none⟩)) (yv := .agg #[.int .i64 x22.1, .int .i64 x22.2.1, .int .i64 x22.2.2.1, .int .i64 x22.2.2.2]) rfl rfl rfl rfl hr29 ?_
          refine ⟨.inl rfl, ?_⟩
          have hst := Stp.ev' (ls := [[b26], [b24], [b2], B14, M]) he29 (mem_flat 1 rfl)
          replace hb2 := he29.box hb2 (hms.apart 2 1 rfl rfl rfl _ (List.mem_singleton.2 rfl))
          replace hs_p0_0 := hs_p0_0.step hst
          replace ho4 := ho4.step (plain_int _) he29 (hms.apart 3 1 rfl rfl rfl)
          replace hc20 := hc20.step hst
          replace hc22 := hc22.step hst
          replace hb26 := he29.box hb26 (hms.apart 0 1 rfl rfl rfl _ (List.mem_singleton.2 rfl))
          replace hms := hms.ev he29
          replace hev := hev.then he29 (fun b hb => .inr (hfr.at 1 rfl b hb))
          replace hb24 := hb29
          refine x_end rfl ?_
          refine t_stop ?_
          have hpk : MS w29 [[b2], B14, [b26], [b24], M] := hms.pick [some 2, some 3, some 0, some 1, some 4] _ rfl
          have hsu : ∀ x ∈ fl [[b2], B14, [b26], [b24], M], x ∈ fl [[b26], [b24], [b2], B14, M] := pick_sub [some 2, some 3, some 0, some 1, some 4] _ rfl
          replace hs_p0_0 := hs_p0_0.sub hsu
          replace hms := hpk
          replace hfr : FR w.heap.size [[b2], B14, [b26], [b24]] := hfr.pick [some 2, some 3, some 0, some 1] _ rfl
          clear hpk hsu
          exact k_then ⟨(x20.1, x20.2.1, x20.2.2.1, x20.2.2.2, x22.1, x22.2.1, x22.2.2.1, x22.2.2.2, b26, b24), ⟨rfl, rfl, rfl, rfl, rfl, rfl, rfl, rfl, rfl, rfl, trivial⟩, h, hev, hms, hfr, hs_p0_0, hb2, ho4, hb26, hb24⟩
        exact t_none
      rintro ⟨e25_j19_0, e25_j19_1, e25_j19_2, e25_j19_3, e27_j19_0, e27_j19_1, e27_j19_2, e27_j19_3, b25_j19, b27_j19⟩ J wj19 ⟨h, hev, hms, hfr, hs_p0_0, hb2, ho4, hb25_j19, hb27_j19⟩
      refine c_block ?_
      refine c_join (σ := Bool) (fun s => match s with | t48__s48_j24 => [(1, .pointer (some ⟨b2, 0, none⟩)), (3, .slice a4 (d5_l17).length c4), (4, .int .i64 t14__s14_l6), (5, .int .i64 t29__s29_l17), (13, .int .i64 (((List.replicate (Int.toNat ((p0_0).length : Int)) ([] : List Int))).length : Int)), (14, .int .i64 t14__s14_l6), (28, .int .i64 ((x15).length : Int)), (29, .int .i64 t29__s29_l17), (48, .bool t48__s48_j24)]) (fun s w' => match s with | t48__s48_j24 => leastcode_relations_J24 t14__s14_l6 d5_l17 t29__s29_l17 t48__s48_j24 = some t17 ∧ Ev [] w w' ∧ MS w' [[b2], B14, M] ∧ FR w.heap.size [[b2], B14] ∧ SlR (eProd (eInt .i64) (eProd (eInt .i64) (eProd (eInt .i64) (eInt .i64)))) w' (fl [[b2], B14, M]) a_p0_0 c_p0_0 p0_0 ∧ w'.heap[b2]? = some (.cells #[.slice a_p0_0 (p0_0).length c_p0_0, .int .i64 p0_1] 27 (0, 0)) ∧ OwnR (eInt .i64) 3 22 w' B14 a4 c4 d5_l17 none) ?_ ?_
      · refine c_plain ?_
        refine x_fieldAddr (xv := .pointer (some ⟨b25_j19, 0, none⟩)) (.pointer (some ⟨b25_j19, 0, none⟩)) rfl rfl rfl (reads_field tfld39_0 _ _) ?_
        refine x_load (xv := .pointer (some ⟨b25_j19, 0, none⟩)) (.int .i64 e25_j19_0) rfl rfl rfl (reads_box tcell3 hb25_j19 nn 0 _ rfl) ?_
        refine x_fieldAddr (xv := .pointer (some ⟨b27_j19, 0, none⟩)) (.pointer (some ⟨b27_j19, 0, none⟩)) rfl rfl rfl (reads_field tfld39_0 _ _) ?_
        refine x_load (xv := .pointer (some ⟨b27_j19, 0, none⟩)) (.int .i64 e27_j19_0) rfl rfl rfl (reads_box tcell3 hb27_j19 nn 0 _ rfl) ?_
        refine x_pure 2 [(53, .bool (e25_j19_0 != e27_j19_0)), (54, .bool (e25_j19_0 != e27_j19_0))] _ _ _ (by kernel_rfl) ?_
        refine x_split 54 (e25_j19_0 != e27_j19_0) rfl (fun hb => ?_) (fun hb => ?_)
        · replace h := ite_t hb h
          refine x_pure 7 [(55, undef), (56, undef), (57, undef), (58, undef), (59, undef), (60, .bool true), (48, .bool true)] _ _ _ (by kernel_rfl) ?_
          refine x_end rfl ?_
          have hpk : MS wj19 [[b2], B14, M] := hms.pick [some 0, some 1, some 4] _ rfl
          have hsu : ∀ x ∈ fl [[b2], B14, M], x ∈ fl [[b2], B14, [b25_j19], [b27_j19], M] := pick_sub [some 0, some 1, some 4] _ rfl
          replace hs_p0_0 := hs_p0_0.sub hsu
          replace hms := hpk
          replace hfr : FR w.heap.size [[b2], B14] := hfr.pick [some 0, some 1] _ rfl
          clear hpk hsu
          exact k_then ⟨true, ⟨rfl, rfl, rfl, rfl, rfl, rfl, rfl, rfl, rfl, trivial⟩, h, hev, hms, hfr, hs_p0_0, hb2, ho4⟩
        replace h := ite_f hb h
        refine x_fieldAddr (xv := .pointer (some ⟨b25_j19, 0, none⟩)) (.pointer (some ⟨b25_j19, 1, none⟩)) rfl rfl rfl (reads_field tfld39_1 _ _) ?_
        refine x_load (xv := .pointer (some ⟨b25_j19, 1, none⟩)) (.int .i64 e25_j19_1) rfl rfl rfl (reads_box tcell3 hb25_j19 nn 1 _ rfl) ?_
        refine x_fieldAddr (xv := .pointer (some ⟨b27_j19, 0, none⟩)) (.pointer (some ⟨b27_j19, 1, none⟩)) rfl rfl rfl (reads_field tfld39_1 _ _) ?_
        refine x_load (xv := .pointer (some ⟨b27_j19, 1, none⟩)) (.int .i64 e27_j19_1) rfl rfl rfl (reads_box tcell3 hb27_j19 nn 1 _ rfl) ?_
        refine x_pure 3 [(59, .bool (decide (e25_j19_1 ≥ e27_j19_1))), (60, .bool (decide (e25_j19_1 ≥ e27_j19_1))), (48, .bool (decide (e25_j19_1 ≥ e27_j19_1)))] _ _ _ (by kernel_rfl) ?_
        refine x_end rfl ?_
        have hpk : MS wj19 [[b2], B14, M] := hms.pick [some 0, some 1, some 4] _ rfl
        have hsu : ∀ x ∈ fl [[b2], B14, M], x ∈ fl [[b2], B14, [b25_j19], [b27_j19], M] := pick_sub [some 0, some 1, some 4] _ rfl
        replace hs_p0_0 := hs_p0_0.sub hsu
        replace hms := hpk
        replace hfr : FR w.heap.size [[b2], B14] := hfr.pick [some 0, some 1] _ rfl
        clear hpk hsu
        exact k_then ⟨decide (e25_j19_1 ≥ e27_j19_1), ⟨rfl, rfl, rfl, rfl, rfl, rfl, rfl, rfl, rfl, trivial⟩, h, hev, hms, hfr, hs_p0_0, hb2, ho4⟩
      rintro t48__s48_j24 J wj24 ⟨h, hev, hms, hfr, hs_p0_0, hb2, ho4⟩
      refine c_cond t48__s48_j24 rfl (fun hb => ?_) (fun hb => ?_)
      · replace h := ite_t hb h
        refine c_skip ?_
        refine k_block ?_
        refine k_block ?_
        refine k_then ?_
        refine c_norm [(1, .pointer (some ⟨b2, 0, none⟩)), (3, .slice a4 (d5_l17).length c4), (4, .int .i64 t14__s14_l6), (13, .int .i64 (((List.replicate (Int.toNat ((p0_0).length : Int)) ([] : List Int))).length : Int)), (14, .int .i64 t14__s14_l6), (28, .int .i64 ((x15).length : Int)), (29, .int .i64 t29__s29_l17)] ⟨rfl, rfl, rfl, rfl, rfl, rfl, rfl, trivial⟩ (fun J => ?_)
        refine c_plain ?_
        refine x_pure 2 [(71, .int .i64 (IntKind.i64.wrap (t29__s29_l17 + 1))), (29, .int .i64 (IntKind.i64.wrap (t29__s29_l17 + 1)))] _ _ _ (by kernel_rfl) ?_
        refine x_end rfl ?_
        have hx := some_inj h
        subst hx
        exact k_then ⟨(m17, d5_l17, IntKind.i64.wrap (t29__s29_l17 + 1)), ⟨rfl, rfl, rfl, rfl, rfl, rfl, rfl, trivial⟩, ⟨hn17, hev, hms, hfr, hs_p0_0, hb2, ho4⟩, Nat.lt_succ_self _⟩
      replace h := ite_f hb h
      refine c_seq (c_plain ?_)
      refine x_pure 4 [(62, .int .i64 t29__s29_l17), (63, .int .i64 t14__s14_l6), (64, .bool (decide (t29__s29_l17 < t14__s14_l6))), (61, .bool (decide (t29__s29_l17 < t14__s14_l6)))] _ _ _ (by kernel_rfl) ?_
      refine x_end rfl (k_then ?_)
      refine c_norm [(1, .pointer (some ⟨b2, 0, none⟩)), (3, .slice a4 (d5_l17).length c4), (4, .int .i64 t14__s14_l6), (5, .int .i64 t29__s29_l17), (13, .int .i64 (((List.replicate (Int.toNat ((p0_0).length : Int)) ([] : List Int))).length : Int)), (14, .int .i64 t14__s14_l6), (28, .int .i64 ((x15).length : Int)), (29, .int .i64 t29__s29_l17), (61, .bool (decide (t29__s29_l17 < t14__s14_l6)))] ⟨rfl, rfl, rfl, rfl, rfl, rfl, rfl, rfl, rfl, trivial⟩ (fun J => ?_)
      refine c_cond (decide (t29__s29_l17 < t14__s14_l6)) rfl (fun hb => ?_) (fun hb => ?_)
      · replace h := ite_t hb h
        refine c_plain ?_
        refine x_pure 2 [(65, .slice a4 (d5_l17).length c4), (66, .int .i64 t14__s14_l6)] _ _ _ (by kernel_rfl) ?_
        obtain ⟨x25, hx25, h⟩ := bind_some h
        obtain ⟨g25, ai25, ci25, hr25, hv25⟩ := OwnR.view (P := Try.prog) (Mo := []) tsl32 ho4 hx25
        refine x_indexAddr (xv := .slice a4 (d5_l17).length c4) (yv := .int .i64 t14__s14_l6) (.pointer (some ⟨g25, (Int.toNat t14__s14_l6), none⟩)) rfl rfl rfl rfl hr25 ?_
        refine x_load (xv := .pointer (some ⟨g25, (Int.toNat t14__s14_l6), none⟩)) (.slice ai25 (x25).length ci25) rfl rfl rfl (RView.load tcell22 hv25) ?_
        refine x_pure 1 [(69, .int .i64 t29__s29_l17)] _ _ _ (by kernel_rfl) ?_
        obtain ⟨x27, hx27, h⟩ := bind_some h
        obtain ⟨ad27, cs27, hr27, hc27, hR, hB27, hae27⟩ := RView.elem (P := Try.prog) (Mo := []) tsl22 hv25 hx27
        obtain rfl := hR
        refine x_indexAddr (xv := .slice ai25 (x25).length ci25) (yv := .int .i64 t29__s29_l17) (.pointer (some ad27)) rfl rfl rfl rfl hr27 ?_
        obtain ⟨w29, hr29, he29, hv29, ho29⟩ := RView.store (P := Try.prog) (y := 2) (.int .i64 2) (plain_int _) tcell3 ho4 hv25 hx27 hae27 rfl rfl (fun _ _ _ hR => set_int hR)
        refine x_store w29 (xv := .pointer (some ad27)) (yv := .int .i64 2) rfl rfl rfl rfl hr29 ?_
        refine ⟨.inl rfl, ?_⟩
        have hst := Stp.ev' (ls := [[b2], B14, M]) he29 (mem_flat 1 rfl)
        replace hb2 := he29.box hb2 (hms.apart 0 1 rfl rfl rfl _ (List.mem_singleton.2 rfl))
        replace hs_p0_0 := hs_p0_0.step hst
        replace hms := hms.ev he29
        replace hev := hev.then he29 (fun b hb => .inr (hfr.at 1 rfl b hb))
        replace ho4 := ho29
        have hsl : (Value.slice a4 (d5_l17).length c4) = (Value.slice a4 ((d5_l17.set (Int.toNat t14__s14_l6) (x25.set (Int.toNat t29__s29_l17) 2))).length c4) := by first | (rw [List.length_set]; done) | simp only [List.length_set]
        try rw [hsl]
        clear hsl
        replace hv25 := hv29
        have hsl : (Value.slice ai25 (x25).length ci25) = (Value.slice ai25 ((x25.set (Int.toNat t29__s29_l17) 2)).length ci25) := by first | (rw [List.length_set]; done) | simp only [List.length_set]
        try rw [hsl]
        clear hsl
        refine x_end rfl ?_
        refine k_block ?_
        refine k_block ?_
        refine k_then ?_
        refine c_plain ?_
        refine x_pure 2 [(71, .int .i64 (IntKind.i64.wrap (t29__s29_l17 + 1))), (29, .int .i64 (IntKind.i64.wrap (t29__s29_l17 + 1)))] _ _ _ (by kernel_rfl) ?_
        refine x_end rfl ?_
        have hx := some_inj h
        subst hx
        exact k_then ⟨(m17, (d5_l17.set (Int.toNat t14__s14_l6) (x25.set (Int.toNat t29__s29_l17) 2)), IntKind.i64.wrap (t29__s29_l17 + 1)), ⟨rfl, rfl, rfl, rfl, rfl, rfl, rfl, trivial⟩, ⟨hn17, hev, hms, hfr, hs_p0_0, hb2, ho4⟩, Nat.lt_succ_self _⟩
      replace h := ite_f hb h
      refine c_plain ?_
      refine x_pure 2 [(42, .slice a4 (d5_l17).length c4), (43, .int .i64 t14__s14_l6)] _ _ _ (by kernel_rfl) ?_
      obtain ⟨x30, hx30, h⟩ := bind_some h
      obtain ⟨g30, ai30, ci30, hr30, hv30⟩ := OwnR.view (P := Try.prog) (Mo := []) tsl32 ho4 hx30
      refine x_indexAddr (xv := .slice a4 (d5_l17).length c4) (yv := .int .i64 t14__s14_l6) (.pointer (some ⟨g30, (Int.toNat t14__s14_l6), none⟩)) rfl rfl rfl rfl hr30 ?_
      refine x_load (xv := .pointer (some ⟨g30, (Int.toNat t14__s14_l6), none⟩)) (.slice ai30 (x30).length ci30) rfl rfl rfl (RView.load tcell22 hv30) ?_
      refine x_pure 1 [(46, .int .i64 t29__s29_l17)] _ _ _ (by kernel_rfl) ?_
      obtain ⟨x32, hx32, h⟩ := bind_some h
      obtain ⟨ad32, cs32, hr32, hc32, hR, hB32, hae32⟩ := RView.elem (P := Try.prog) (Mo := []) tsl22 hv30 hx32
      obtain rfl := hR
      refine x_indexAddr (xv := .slice ai30 (x30).length ci30) (yv := .int .i64 t29__s29_l17) (.pointer (some ad32)) rfl rfl rfl rfl hr32 ?_
      obtain ⟨w34, hr34, he34, hv34, ho34⟩ := RView.store (P := Try.prog) (y := 1) (.int .i64 1) (plain_int _) tcell3 ho4 hv30 hx32 hae32 rfl rfl (fun _ _ _ hR => set_int hR)
      refine x_store w34 (xv := .pointer (some ad32)) (yv := .int .i64 1) rfl rfl rfl rfl hr34 ?_
      refine ⟨.inl rfl, ?_⟩
      have hst := Stp.ev' (ls := [[b2], B14, M]) he34 (mem_flat 1 rfl)
      replace hb2 := he34.box hb2 (hms.apart 0 1 rfl rfl rfl _ (List.mem_singleton.2 rfl))
      replace hs_p0_0 := hs_p0_0.step hst
      replace hms := hms.ev he34
      replace hev := hev.then he34 (fun b hb => .inr (hfr.at 1 rfl b hb))
      replace ho4 := ho34
      have hsl : (Value.slice a4 (d5_l17).length c4) = (Value.slice a4 ((d5_l17.set (Int.toNat t14__s14_l6) (x30.set (Int.toNat t29__s29_l17) 1))).length c4) := by first | (rw [List.length_set]; done) | simp only [List.length_set]
      try rw [hsl]
      clear hsl
      replace hv30 := hv34
      have hsl : (Value.slice ai30 (x30).length ci30) = (Value.slice ai30 ((x30.set (Int.toNat t29__s29_l17) 1)).length ci30) := by first | (rw [List.length_set]; done) | simp only [List.length_set]
      try rw [hsl]
      clear hsl
      refine x_end rfl ?_
      refine k_block ?_
      refine k_block ?_
      refine k_then ?_
      refine c_plain ?_
      refine x_pure 2 [(71, .int .i64 (IntKind.i64.wrap (t29__s29_l17 + 1))), (29, .int .i64 (IntKind.i64.wrap (t29__s29_l17 + 1)))] _ _ _ (by kernel_rfl) ?_
      refine x_end rfl ?_
      have hx := some_inj h
      subst hx
      exact k_then ⟨(m17, (d5_l17.set (Int.toNat t14__s14_l6) (x30.set (Int.toNat t29__s29_l17) 1)), IntKind.i64.wrap (t29__s29_l17 + 1)), ⟨rfl, rfl, rfl, rfl, rfl, rfl, rfl, trivial⟩, ⟨hn17, hev, hms, hfr, hs_p0_0, hb2, ho4⟩, Nat.lt_succ_self _⟩
    replace h := ite_f hb h
    refine c_exit ?_
    refine k_then_exit ?_
    have hx := some_inj h
    subst hx
    have hy := some_inj hn17
    subst hy
    replace h := h17
    refine k_then_exit ?_
    refine k_block_in ?_
    refine k_block ?_
    refine k_then ?_
    refine c_norm [(1, .pointer (some ⟨b2, 0, none⟩)), (3, .slice a4 (d5_l17).length c4), (13, .int .i64 (((List.replicate (Int.toNat ((p0_0).length : Int)) ([] : List Int))).length : Int)), (14, .int .i64 t14__s14_l6)] ⟨rfl, rfl, rfl, rfl, trivial⟩ (fun J => ?_)
    refine c_plain ?_
    refine x_pure 2 [(72, .int .i64 (IntKind.i64.wrap (t14__s14_l6 + 1))), (14, .int .i64 (IntKind.i64.wrap (t14__s14_l6 + 1)))] _ _ _ (by kernel_rfl) ?_
    refine x_end rfl ?_
    have hx := some_inj h
    subst hx
    exact k_then ⟨(m6, d5_l17, IntKind.i64.wrap (t14__s14_l6 + 1), B14), ⟨rfl, rfl, rfl, rfl, trivial⟩, ⟨hn6, hev, hms, hfr, hs_p0_0, hb2, ho4⟩, Nat.lt_succ_self _⟩
  replace h := ite_f hb h
  refine c_exit ?_
  refine k_then_exit ?_
  have hx := some_inj h
  subst hx
  have hy := some_inj hn6
  subst hy
  replace h := h6
  refine k_then_exit ?_
  refine k_block_in ?_
  refine k_then ?_
  refine c_norm [(3, .slice a4 (d5_l6).length c4)] ⟨rfl, trivial⟩ (fun J => ?_)
  refine c_seq (c_plain ?_)
  refine x_pure 2 [(73, .slice a4 (d5_l6).length c4), (2, .slice a4 (d5_l6).length c4)] _ _ _ (by kernel_rfl) ?_
  refine x_end rfl (k_then ?_)
  refine c_ret ?_
  refine r_ret (r_vals [.slice a4 (d5_l6).length c4] ⟨rfl, trivial⟩ ?_)
  have hx := some_inj h
  subst hx
  have hmr : MS wl6 [B5_l6, M] := hms.pick [some 1, some 2] _ rfl
  have hsu : ∀ x ∈ fl [B5_l6, M], x ∈ fl [[b2], B5_l6, M] := pick_sub [some 1, some 2] _ rfl
  have hfe : FR w.heap.size [B5_l6] := hfr.pick [some 1] _ rfl
  exact ⟨a4, c4, B5_l6, rfl, hev, hmr, hfe, ho4⟩
def leastcode_solve_1 (p0 : Int) (p1 : Int) (p2_0 : List (Int × Int × Int × Int)) (p2_1 : Int) : Option Int :=
((idx p2_0 p0).bind fun x3 =>
((idx p2_0 p1).bind fun x5 =>
some (IntKind.i64.wrap (x3.2.1 - x5.2.1))))

theorem leastcode_solve_1_w (p0 : Int) (p1 : Int) (b_p2 : Nat) (a_p2_0 : Option Addr) (c_p2_0 : Nat) (p2_0 : List (Int × Int × Int × Int)) (p2_1 : Int) (r : Int) (w : World) (M : List Nat) (hms : MS w [[b_p2], M]) (hs_p2_0 : SlR (eProd (eInt .i64) (eProd (eInt .i64) (eProd (eInt .i64) (eInt .i64)))) w (fl [[b_p2], M]) a_p2_0 c_p2_0 p2_0) (hb_p2 : w.heap[b_p2]? = some (.cells #[.slice a_p2_0 (p2_0).length c_p2_0, .int .i64 p2_1] 27 (0, 0))) (h : leastcode_solve_1 p0 p1 p2_0 p2_1 = some r) : CallVC Try.prog 54 [.int .i64 p0, .int .i64 p1, .pointer (some ⟨b_p2, 0, none⟩)] w fun v w' => (∃ q, w' = w.drewN q) ∧ v = .int .i64 r ∧ Ev [b_p2] w w' ∧ w'.heap[b_p2]? = some (.cells #[.slice a_p2_0 (p2_0).length c_p2_0, .int .i64 p2_1] 27 (0, 0)) := by
  refine calls_vc hmx Try.func54 (by kernel_rfl) rfl (rs := [.tmp 5]) rfl (by kernel_rfl) (args := [.int .i64 p0, .int .i64 p1, .pointer (some ⟨b_p2, 0, none⟩)]) rfl ?_
  have hev : Ev [b_p2] w w := Ev.refl _ _
  have hfr : FR w.heap.size [] := FR.nil _
  refine c_seq (c_plain ?_)
  refine x_pure 1 [(5, .int .i64 0)] _ _ _ (by kernel_rfl) ?_
  refine x_end rfl (k_then ?_)
  refine c_seq ?_
  refine c_drawn [] [(0, false), (1, false), (2, false), (3, false), (4, false), (5, false), (6, false), (7, false), (8, false), (9, false), (10, false), (11, false), (12, false), (13, false)] _ (by kernel_rfl) rfl ?_
  have hst := Stp.ext (ls := [[b_p2], M]) (Ev.drew w)
  replace hs_p2_0 := hs_p2_0.step hst
  replace hb_p2 := (Ev.drew w).box hb_p2 nn
  replace hms := hms.ev (Ev.drew w)
  replace hev := hev.ext (Ev.drew w)
  refine x_fieldAddr (xv := .pointer (some ⟨b_p2, 0, none⟩)) (.pointer (some ⟨b_p2, 0, none⟩)) rfl rfl rfl (reads_field tfld27_0 _ _) ?_
  refine x_load (xv := .pointer (some ⟨b_p2, 0, none⟩)) (.slice a_p2_0 (p2_0).length c_p2_0) rfl rfl rfl (reads_box tcell25 hb_p2 nn 0 _ rfl) ?_
  refine x_pure 1 [(8, .int .i64 p0)] _ _ _ (by kernel_rfl) ?_
  obtain ⟨x3, hx3, h⟩ := bind_some h
  obtain ⟨ad3, cs3, hr3, hc3, hR⟩ := reads_index (Mo := []) tsl25 hs_p2_0 hx3
  obtain ⟨_, _, rfl, rfl, ⟨_, _, rfl, rfl, ⟨_, _, rfl, rfl, rfl⟩⟩⟩ := hR
  refine x_indexAddr (xv := .slice a_p2_0 (p2_0).length c_p2_0) (yv := .int .i64 p0) (.pointer (some ad3)) rfl rfl rfl rfl hr3 ?_
  refine x_fieldAddr (xv := .pointer (some ad3)) (.pointer (some (Addr.add ad3 1))) rfl rfl rfl (reads_field tfld39_1 _ _) ?_
  refine x_load (xv := .pointer (some (Addr.add ad3 1))) (.int .i64 x3.2.1) rfl rfl rfl (reads_cell tcell3 hc3 (fun _ h => by cases h) 1 _ rfl) ?_
  refine x_fieldAddr (xv := .pointer (some ⟨b_p2, 0, none⟩)) (.pointer (some ⟨b_p2, 0, none⟩)) rfl rfl rfl (reads_field tfld27_0 _ _) ?_
  refine x_load (xv := .pointer (some ⟨b_p2, 0, none⟩)) (.slice a_p2_0 (p2_0).length c_p2_0) rfl rfl rfl (reads_box tcell25 hb_p2 nn 0 _ rfl) ?_
  refine x_pure 1 [(14, .int .i64 p1)] _ _ _ (by kernel_rfl) ?_
  obtain ⟨x5, hx5, h⟩ := bind_some h
  obtain ⟨ad5, cs5, hr5, hc5, hR⟩ := reads_index (Mo := []) tsl25 hs_p2_0 hx5
  obtain ⟨_, _, rfl, rfl, ⟨_, _, rfl, rfl, ⟨_, _, rfl, rfl, rfl⟩⟩⟩ := hR
  refine x_indexAddr (xv := .slice a_p2_0 (p2_0).length c_p2_0) (yv := .int .i64 p1) (.pointer (some ad5)) rfl rfl rfl rfl hr5 ?_
  refine x_fieldAddr (xv := .pointer (some ad5)) (.pointer (some (Addr.add ad5 1))) rfl rfl rfl (reads_field tfld39_1 _ _) ?_
  refine x_load (xv := .pointer (some (Addr.add ad5 1))) (.int .i64 x5.2.1) rfl rfl rfl (reads_cell tcell3 hc5 (fun _ h => by cases h) 1 _ rfl) ?_
  refine x_pure 2 [(18, .int .i64 (IntKind.i64.wrap (x3.2.1 - x5.2.1))), (5, .int .i64 (IntKind.i64.wrap (x3.2.1 - x5.2.1)))] _ _ _ (by kernel_rfl) ?_
  refine x_end rfl (k_then ?_)
  refine c_norm [(5, .int .i64 (IntKind.i64.wrap (x3.2.1 - x5.2.1)))] ⟨rfl, trivial⟩ (fun J => ?_)
  refine c_ret ?_
  refine r_ret (r_vals [.int .i64 (IntKind.i64.wrap (x3.2.1 - x5.2.1))] ⟨rfl, trivial⟩ ?_)
  have hx := some_inj h
  subst hx
  have hmr : MS (w).drew [[b_p2], M] := hms.pick [some 0, some 1] _ rfl
  have hsu : ∀ x ∈ fl [[b_p2], M], x ∈ fl [[b_p2], M] := pick_sub [some 0, some 1] _ rfl
  exact ⟨⟨1, rfl⟩, rfl, hev, hb_p2⟩
def leastcode_solve_L23 (p0_0 : List (Int × Int × Int × Int)) (p1 : List (List Int)) (d17_l18 : List Int) (x20 : Int) (s : (List Int) × Int) : Option (Step ((List Int) × Int) (List Int)) :=
match s with
| (d15_l23, t47__s47_l23) =>
(if (decide (t47__s47_l23 < ((p0_0).length : Int))) = true then
((idx p1 t47__s47_l23).bind fun x25 =>
((idx x25 x20).bind fun x29 =>
(if (decide (x29 > 0)) = true then
((idx d15_l23 x20).bind fun x31 =>
((idx d17_l18 t47__s47_l23).bind fun x33 =>
((idx d15_l23 x20).bind fun x35 =>
some (.next ((d15_l23.set (Int.toNat x20) (if (IntKind.i64.wrap ((IntKind.i64.wrap (x33 + x29)) - 1)) > x31 then (IntKind.i64.wrap ((IntKind.i64.wrap (x33 + x29)) - 1)) else x31)), IntKind.i64.wrap (t47__s47_l23 + 1))))))
else
some (.next (d15_l23, IntKind.i64.wrap (t47__s47_l23 + 1))))))
else
some (.done d15_l23))

def leastcode_solve_L18 (p0_0 : List (Int × Int × Int × Int)) (p0_1 : Int) (p1 : List (List Int)) (x12 : List Int) (s : (List Int) × (List Int) × Int) : Option (Step ((List Int) × (List Int) × Int) (Int ⊕ ((List Int) × (List Int)))) :=
match s with
| (d15_l18, d17_l18, t40__s40_l18) =>
(if (decide (t40__s40_l18 < ((x12).length : Int))) = true then
((idx x12 t40__s40_l18).bind fun x20 =>
((loop (leastcode_solve_L23 p0_0 p1 d17_l18 x20) (d15_l18, 0)).bind fun d => match d with
| d15_x23 => ((idx d15_x23 x20).bind fun x38 =>
((idx p0_0 x20).bind fun x40 =>
((code_Next x38 x40.2.2.1 p0_1).bind fun x42 =>
(if (x42.2 != 0) = true then
some (.done (.inl x42.2))
else
((idx d17_l18 x20).bind fun x44 =>
some (.next (d15_x23, (d17_l18.set (Int.toNat x20) x42.1), IntKind.i64.wrap (t40__s40_l18 + 1))))))))))
else
some (.done (.inr (d15_l18, d17_l18))))

def leastcode_solve_L8 (p0_0 : List (Int × Int × Int × Int)) (s : (List Int) × Int) : Option (Step ((List Int) × Int) (List Int)) :=
match s with
| (d6_l8, t21__s21_l8) =>
(if (decide (t21__s21_l8 < (((List.replicate (Int.toNat ((p0_0).length : Int)) 0 : List Int)).length : Int))) = true then
((idx d6_l8 t21__s21_l8).bind fun x9 =>
some (.next ((d6_l8.set (Int.toNat t21__s21_l8) t21__s21_l8), IntKind.i64.wrap (t21__s21_l8 + 1))))
else
some (.done d6_l8))

def leastcode_solve (p0_0 : List (Int × Int × Int × Int)) (p0_1 : Int) (p1 : List (List Int)) : Option ((List Int) × (List Int) × Int) :=
(if (0 : Int) ≤ ((p0_0).length : Int) ∧ (((p0_0).length : Int) : Int) ≤ 4294967296 then
((loop (leastcode_solve_L8 p0_0) ((List.replicate (Int.toNat ((p0_0).length : Int)) 0 : List Int), 0)).bind fun d => match d with
| d6_x8 => ((sortF (fun sx sy => leastcode_solve_1 sx sy p0_0 p0_1) d6_x8).bind fun x12 =>
(if (0 : Int) ≤ ((x12).length : Int) ∧ (((x12).length : Int) : Int) ≤ 4294967296 then
(if (0 : Int) ≤ ((x12).length : Int) ∧ (((x12).length : Int) : Int) ≤ 4294967296 then
((loop (leastcode_solve_L18 p0_0 p0_1 p1 x12) ((List.replicate (Int.toNat ((x12).length : Int)) 0 : List Int), (List.replicate (Int.toNat ((x12).length : Int)) 0 : List Int), 0)).bind fun d => match d with
| (.inl v_e_s6_x1800) => some ([], [], v_e_s6_x1800)
| (.inr (d15_x1801, d17_x1801)) => some (d15_x1801, d17_x1801, 0))
else none)
else none)))
else none)

theorem leastcode_solve_w (a_p0_0 : Option Addr) (c_p0_0 : Nat) (p0_0 : List (Int × Int × Int × Int)) (p0_1 : Int) (a_p1 : Option Addr) (c_p1 : Nat) (p1 : List (List Int)) (r : (List Int) × (List Int) × Int) (w : World) (M : List Nat) (hms : MS w [M]) (hs_p0_0 : SlR (eProd (eInt .i64) (eProd (eInt .i64) (eProd (eInt .i64) (eInt .i64)))) w (fl [M]) a_p0_0 c_p0_0 p0_0) (hs_p1 : SlR (eSl (eInt .i64)) w (fl [M]) a_p1 c_p1 p1) (h : leastcode_solve p0_0 p0_1 p1 = some r) : CallVC Try.prog 42 [.agg #[.slice a_p0_0 (p0_0).length c_p0_0, .int .i64 p0_1], .slice a_p1 (p1).length c_p1] w fun v w' => ∃ (a0' : Option Addr), ∃ (c0' : Nat), ∃ (a2' : Option Addr), ∃ (c2' : Nat), v = .tuple #[.slice a0' (r.1).length c0', .slice a2' (r.2.1).length c2', .int .i64 r.2.2] ∧ Ev [] w w' ∧ MS w' [blk a0', blk a2', M] ∧ FR w.heap.size [blk a0', blk a2'] ∧ OwnS (eInt .i64) 3 w' (fl [blk a0', blk a2', M]) a0' c0' r.1 ∧ OwnS (eInt .i64) 3 w' (fl [blk a0', blk a2', M]) a2' c2' r.2.1 := by
  refine calls_vc hmx Try.func42 (by kernel_rfl) rfl (rs := [.tmp 4, .tmp 5, .tmp 6]) rfl (by kernel_rfl) (args := [.agg #[.slice a_p0_0 (p0_0).length c_p0_0, .int .i64 p0_1], .slice a_p1 (p1).length c_p1]) rfl ?_
  have hev : Ev [] w w := Ev.refl _ _
  have hfr : FR w.heap.size [] := FR.nil _
  refine c_seq (c_plain ?_)
  refine x_box (xv := .agg #[.slice a_p0_0 (p0_0).length c_p0_0, .int .i64 p0_1]) rfl rfl rfl (fun b3 w3 hq3 hb3 he3 hz3 => ?_)
  replace hb3 : w3.heap[b3]? = some (.cells #[.slice a_p0_0 (p0_0).length c_p0_0, .int .i64 p0_1] 27 (0, 0)) := hb3
  refine ⟨.inl rfl, ?_⟩
  have hst := Stp.box (ls := [M]) he3 hq3
  replace hs_p0_0 := hs_p0_0.step hst
  replace hs_p1 := hs_p1.step hst
  replace hms := hms.box he3 hq3 hb3
  replace hfr := hfr.box hev.size hq3
  replace hev := hev.ext he3
  refine x_pure 3 [(4, .slice none 0 0), (5, .slice none 0 0), (6, .int .i64 0)] _ _ _ (by kernel_rfl) ?_
  refine x_end rfl (k_then ?_)
  refine c_seq (c_plain ?_)
  refine x_fieldAddr (xv := .pointer (some ⟨b3, 0, none⟩)) (.pointer (some ⟨b3, 0, none⟩)) rfl rfl rfl (reads_field tfld27_0 _ _) ?_
  refine x_load (xv := .pointer (some ⟨b3, 0, none⟩)) (.slice a_p0_0 (p0_0).length c_p0_0) rfl rfl rfl (reads_box tcell25 hb3 nn 0 _ rfl) ?_
  refine x_len (vs := [.slice a_p0_0 (p0_0).length c_p0_0]) (.int .i64 ((p0_0).length : Int)) rfl rfl rfl (reads_len tsl25 _ _ _ _ _) ?_
  have hg := guard_l h
  replace h := guard_r h
  obtain ⟨a5, c5, w5, hr5, he5, hn5, hw5⟩ := own_make (e := (eInt .i64)) tel22 w3 ((p0_0).length : Int) hg.1 hg.2 0 (fun _ _ => rfl)
  refine x_makeSlice _ w5 (xv := .int .i64 ((p0_0).length : Int)) (yv := .int .i64 ((p0_0).length : Int)) rfl rfl rfl rfl hr5 ?_
  refine ⟨.inl rfl, ?_⟩
  have hst := Stp.push (ls := [[b3], M]) (l := blk a5) he5 (fun _ h => by cases h) (fun b hb => (hn5 b hb).1)
  replace hs_p0_0 := hs_p0_0.step hst
  replace hs_p1 := hs_p1.step hst
  replace hb3 := he5.box hb3 nn
  replace hms := hms.push he5 hn5
  replace hfr := hfr.push (fun b hb => Nat.le_trans hev.size (hn5 b hb).1)
  replace hev := hev.ext he5
  have ho5 := hw5 (fl [blk a5, [b3], M])
  clear hw5
  refine x_pure 1 [(7, .slice a5 ((List.replicate (Int.toNat ((p0_0).length : Int)) 0 : List Int)).length c5)] _ _ _ (by kernel_rfl) ?_
  refine x_end rfl (k_then ?_)
  refine c_seq ?_
  refine c_seq (c_plain ?_)
  refine x_pure 1 [(19, .slice a5 ((List.replicate (Int.toNat ((p0_0).length : Int)) 0 : List Int)).length c5)] _ _ _ (by kernel_rfl) ?_
  refine x_len (vs := [.slice a5 ((List.replicate (Int.toNat ((p0_0).length : Int)) 0 : List Int)).length c5]) (.int .i64 (((List.replicate (Int.toNat ((p0_0).length : Int)) 0 : List Int)).length : Int)) rfl rfl rfl (reads_len tsl22 _ _ _ _ _) ?_
  refine x_pure 1 [(21, .int .i64 0)] _ _ _ (by kernel_rfl) ?_
  refine x_end rfl (k_then ?_)
  refine c_block ?_
  have hpk : MS w5 [[b3], blk a5, M] := hms.pick [some 1, some 0, some 2] _ rfl
  have hsu : ∀ x ∈ fl [[b3], blk a5, M], x ∈ fl [blk a5, [b3], M] := pick_sub [some 1, some 0, some 2] _ rfl
  replace hs_p1 := hs_p1.sub hsu
  replace hs_p0_0 := hs_p0_0.sub hsu
  replace ho5 := ho5.sub hsu
  replace hms := hpk
  replace hfr : FR w.heap.size [[b3], blk a5] := hfr.pick [some 1, some 0] _ rfl
  clear hpk hsu
  obtain ⟨d8, hd8, h8⟩ := bind_some h
  obtain ⟨m8, hd8⟩ := loop_some hd8
  refine c_loop (loop_rule hmx (σ := Nat × (List Int) × Int × Option Addr) (fun s => match s with | (_, d6_l8, t21__s21_l8, a6_l8) => [(1, .slice a_p1 (p1).length c_p1), (2, .pointer (some ⟨b3, 0, none⟩)), (7, .slice a6_l8 (d6_l8).length c5), (20, .int .i64 (((List.replicate (Int.toNat ((p0_0).length : Int)) 0 : List Int)).length : Int)), (21, .int .i64 t21__s21_l8)]) (fun s w' => match s with | (m, d6_l8, t21__s21_l8, a6_l8) => loopN (leastcode_solve_L8 p0_0) m (d6_l8, t21__s21_l8) = some d8 ∧ Ev [] w w' ∧ MS w' [[b3], blk a6_l8, M] ∧ FR w.heap.size [[b3], blk a6_l8] ∧ SlR (eSl (eInt .i64)) w' (fl [[b3], blk a6_l8, M]) a_p1 c_p1 p1 ∧ SlR (eProd (eInt .i64) (eProd (eInt .i64) (eProd (eInt .i64) (eInt .i64)))) w' (fl [[b3], blk a6_l8, M]) a_p0_0 c_p0_0 p0_0 ∧ w'.heap[b3]? = some (.cells #[.slice a_p0_0 (p0_0).length c_p0_0, .int .i64 p0_1] 27 (0, 0)) ∧ OwnS (eInt .i64) 3 w' (fl [[b3], blk a6_l8, M]) a6_l8 c5 d6_l8) (fun s => s.1) (m8, (List.replicate (Int.toNat ((p0_0).length : Int)) 0 : List Int), 0, a5) ⟨rfl, rfl, rfl, rfl, rfl, trivial⟩ ⟨hd8, hev, hms, hfr, hs_p1, hs_p0_0, hb3, ho5⟩ ?_)
  rintro ⟨m8, d6_l8, t21__s21_l8, a6_l8⟩ J wl8 ⟨hn8, hev, hms, hfr, hs_p1, hs_p0_0, hb3, ho5⟩
  rcases m8 with _ | m8
  · exact (loopN_zero hn8).elim
  obtain ⟨t8, h, hn8⟩ := bind_some hn8
  refine c_seq (c_plain ?_)
  refine x_pure 1 [(22, .bool (decide (t21__s21_l8 < (((List.replicate (Int.toNat ((p0_0).length : Int)) 0 : List Int)).length : Int))))] _ _ _ (by kernel_rfl) ?_
  refine x_end rfl (k_then ?_)
  refine c_norm [(1, .slice a_p1 (p1).length c_p1), (2, .pointer (some ⟨b3, 0, none⟩)), (7, .slice a6_l8 (d6_l8).length c5), (20, .int .i64 (((List.replicate (Int.toNat ((p0_0).length : Int)) 0 : List Int)).length : Int)), (21, .int .i64 t21__s21_l8), (22, .bool (decide (t21__s21_l8 < (((List.replicate (Int.toNat ((p0_0).length : Int)) 0 : List Int)).length : Int))))] ⟨rfl, rfl, rfl, rfl, rfl, rfl, trivial⟩ (fun J => ?_)
  refine c_seq ?_
  refine c_cond (decide (t21__s21_l8 < (((List.replicate (Int.toNat ((p0_0).length : Int)) 0 : List Int)).length : Int))) rfl (fun hb => ?_) (fun hb => ?_)
  · replace h := ite_t hb h
    refine c_skip ?_
    refine k_then ?_
    refine c_seq ?_
    refine c_block ?_
    refine c_seq (c_plain ?_)
    refine x_pure 2 [(23, .int .i64 t21__s21_l8), (8, .int .i64 t21__s21_l8)] _ _ _ (by kernel_rfl) ?_
    refine x_end rfl (k_then ?_)
    refine c_plain ?_
    refine x_pure 3 [(24, .slice a6_l8 (d6_l8).length c5), (25, .int .i64 t21__s21_l8), (26, .int .i64 t21__s21_l8)] _ _ _ (by kernel_rfl) ?_
    obtain ⟨x9, hx9, h⟩ := bind_some h
    obtain ⟨g9, cs9, ha, hr9, hc9, hR⟩ := own_index (Mo := []) tsl22 ho5 hx9
    subst ha
    obtain rfl := hR
    refine x_indexAddr (xv := .slice (some ⟨g9, 0, none⟩) (d6_l8).length c5) (yv := .int .i64 t21__s21_l8) (.pointer (some ⟨g9, (Int.toNat t21__s21_l8) * (eInt .i64).n, none⟩)) rfl rfl rfl rfl hr9 ?_
    obtain ⟨w11, hr11, he11, ho11⟩ := own_store (y := t21__s21_l8) 0 (.int .i64 t21__s21_l8) tcell3 ho5 (mem_flat 1 rfl _ (List.mem_singleton.2 rfl)) hx9 rfl rfl (fun _ _ _ hR => set_int hR)
    refine x_store w11 (xv := .pointer (some ⟨g9, (Int.toNat t21__s21_l8) * (eInt .i64).n, none⟩)) (yv := .int .i64 t21__s21_l8) rfl rfl rfl rfl hr11 ?_
    refine ⟨.inl rfl, ?_⟩
    have hst := Stp.ev' (ls := [[b3], blk (some ⟨g9, 0, none⟩), M]) he11 (mem_flat 1 rfl)
    replace hs_p1 := hs_p1.step hst
    replace hb3 := he11.box hb3 (hms.apart 0 1 rfl rfl rfl _ (List.mem_singleton.2 rfl))
    replace hs_p0_0 := hs_p0_0.step hst
    replace hms := hms.ev he11
    replace hev := hev.then he11 (fun b hb => .inr (hfr.at 1 rfl b hb))
    replace ho5 := ho11
    have hsl : (Value.slice (some ⟨g9, 0, none⟩) (d6_l8).length c5) = (Value.slice (some ⟨g9, 0, none⟩) ((d6_l8.set (Int.toNat t21__s21_l8) t21__s21_l8)).length c5) := by first | (rw [List.length_set]; done) | simp only [List.length_set]
    try rw [hsl]
    clear hsl
    refine x_end rfl ?_
    refine k_block ?_
    refine k_then ?_
    refine c_plain ?_
    refine x_pure 2 [(28, .int .i64 (IntKind.i64.wrap (t21__s21_l8 + 1))), (21, .int .i64 (IntKind.i64.wrap (t21__s21_l8 + 1)))] _ _ _ (by kernel_rfl) ?_
    refine x_end rfl ?_
    have hx := some_inj h
    subst hx
    exact k_then ⟨(m8, (d6_l8.set (Int.toNat t21__s21_l8) t21__s21_l8), IntKind.i64.wrap (t21__s21_l8 + 1), (some ⟨g9, 0, none⟩)), ⟨rfl, rfl, rfl, rfl, rfl, trivial⟩, ⟨hn8, hev, hms, hfr, hs_p1, hs_p0_0, hb3, ho5⟩, Nat.lt_succ_self _⟩
  replace h := ite_f hb h
  refine c_exit ?_
  refine k_then_exit ?_
  have hx := some_inj h
  subst hx
  have hy := some_inj hn8
  subst hy
  replace h := h8
  refine k_then_exit ?_
  refine k_block_in ?_
  refine k_then ?_
  refine c_norm [(1, .slice a_p1 (p1).length c_p1), (2, .pointer (some ⟨b3, 0, none⟩)), (7, .slice a6_l8 (d6_l8).length c5)] ⟨rfl, rfl, rfl, trivial⟩ (fun J => ?_)
  refine c_seq (c_plain ?_)
  refine x_pure 1 [(29, .slice a6_l8 (d6_l8).length c5)] _ _ _ (by kernel_rfl) ?_
  refine x_makeFunc 54 #[] #[.pointer (some ⟨b3, 0, none⟩)] rfl rfl rfl rfl ?_
  obtain ⟨x12, hx, h⟩ := bind_some h
  have hcall := sortF_w (P := Try.prog) Lsortfunc (f := 53) (g := 54) rfl ⟨_, Try.func53, by kernel_rfl, rfl⟩ ⟨_, Try.func54, by kernel_rfl, rfl⟩ [.pointer (some ⟨b3, 0, none⟩)] (T := 3) (fun sx sy => leastcode_solve_1 sx sy p0_0 p0_1) ho5 (fun w9 sx sy sr he9 hx9 => by
  · have hst9 := Stp.ev' (ls := [[b3], blk a6_l8, M]) he9 (mem_flat 1 rfl)
    have hms9 := hms.ev he9
    have hpk9 : MS w9 ([[b3]] ++ [M]) := hms9.pick [some 0, some 2] _ rfl
    have hsb0 : ∀ x ∈ fl ([[b3]] ++ [M]), x ∈ fl [[b3], blk a6_l8, M] := pick_sub [some 0, some 2] _ rfl
    have hsb9 : ∀ x ∈ fl ([[b3]] ++ [fl [M]]), x ∈ fl [[b3], blk a6_l8, M] := fun x hx => hsb0 x (fl_unfold x hx)
    exact (leastcode_solve_1_w sx sy b3 a_p0_0 c_p0_0 p0_0 p0_1 sr w9 (fl [M]) (hpk9.fold (P := [[b3]])) ((hs_p0_0.step hst9).sub hsb9) (he9.box hb3 (hms.apart 0 1 rfl rfl rfl _ (List.mem_singleton.2 rfl))) hx9).mono (fun v u hh => ⟨hh.2.1, hh.1⟩)) hx
  refine x_call 53 #[] #[] [.slice a6_l8 (d6_l8).length c5, (.func (.func 54) #[] #[.pointer (some ⟨b3, 0, none⟩)])] _ rfl rfl rfl rfl hcall ?_
  rintro v w13 ⟨rfl, he13, hln13, hw13⟩
  clear hcall hx
  refine ⟨.inl rfl, ?_⟩
  have hst := Stp.ev' (ls := [[b3], blk a6_l8, M]) he13 (mem_flat 1 rfl)
  replace hs_p1 := hs_p1.step hst
  replace hb3 := he13.box hb3 (hms.apart 0 1 rfl rfl rfl _ (List.mem_singleton.2 rfl))
  replace hs_p0_0 := hs_p0_0.step hst
  replace hms := hms.ev he13
  replace hev := hev.then he13 (fun b hb => .inr (hfr.at 1 rfl b hb))
  replace ho5 := hw13 (fl [[b3], blk a6_l8, M])
  have hsl : (Value.slice a6_l8 (d6_l8).length c5) = (Value.slice a6_l8 (x12).length c5) := by first | (rw [hln13]; done) | simp only [hln13]
  try rw [hsl]
  clear hsl
  refine x_end rfl (k_then ?_)
  refine c_seq (c_plain ?_)
  refine x_pure 1 [(32, .slice a6_l8 (x12).length c5)] _ _ _ (by kernel_rfl) ?_
  refine x_len (vs := [.slice a6_l8 (x12).length c5]) (.int .i64 ((x12).length : Int)) rfl rfl rfl (reads_len tsl22 _ _ _ _ _) ?_
  have hg := guard_l h
  replace h := guard_r h
  obtain ⟨a14, c14, w14, hr14, he14, hn14, hw14⟩ := own_make (e := (eInt .i64)) tel22 w13 ((x12).length : Int) hg.1 hg.2 0 (fun _ _ => rfl)
  refine x_makeSlice _ w14 (xv := .int .i64 ((x12).length : Int)) (yv := .int .i64 ((x12).length : Int)) rfl rfl rfl rfl hr14 ?_
  refine ⟨.inl rfl, ?_⟩
  have hst := Stp.push (ls := [[b3], blk a6_l8, M]) (l := blk a14) he14 (fun _ h => by cases h) (fun b hb => (hn14 b hb).1)
  replace hs_p1 := hs_p1.step hst
  replace hb3 := he14.box hb3 nn
  replace hs_p0_0 := hs_p0_0.step hst
  replace ho5 := ho5.step hst he14 nn2
  replace hms := hms.push he14 hn14
  replace hfr := hfr.push (fun b hb => Nat.le_trans hev.size (hn14 b hb).1)
  replace hev := hev.ext he14
  have ho14 := hw14 (fl [blk a14, [b3], blk a6_l8, M])
  clear hw14
  refine x_pure 1 [(4, .slice a14 ((List.replicate (Int.toNat ((x12).length : Int)) 0 : List Int)).length c14)] _ _ _ (by kernel_rfl) ?_
  refine x_end rfl (k_then ?_)
  refine c_seq (c_plain ?_)
  refine x_pure 1 [(35, .slice a6_l8 (x12).length c5)] _ _ _ (by kernel_rfl) ?_
  refine x_len (vs := [.slice a6_l8 (x12).length c5]) (.int .i64 ((x12).length : Int)) rfl rfl rfl (reads_len tsl22 _ _ _ _ _) ?_
  have hg := guard_l h
  replace h := guard_r h
  obtain ⟨a16, c16, w16, hr16, he16, hn16, hw16⟩ := own_make (e := (eInt .i64)) tel22 w14 ((x12).length : Int) hg.1 hg.2 0 (fun _ _ => rfl)
  refine x_makeSlice _ w16 (xv := .int .i64 ((x12).length : Int)) (yv := .int .i64 ((x12).length : Int)) rfl rfl rfl rfl hr16 ?_
  refine ⟨.inl rfl, ?_⟩
  have hst := Stp.push (ls := [blk a14, [b3], blk a6_l8, M]) (l := blk a16) he16 (fun _ h => by cases h) (fun b hb => (hn16 b hb).1)
  replace hs_p1 := hs_p1.step hst
  replace hb3 := he16.box hb3 nn
  replace hs_p0_0 := hs_p0_0.step hst
  replace ho5 := ho5.step hst he16 nn2
  replace ho14 := ho14.step hst he16 nn2
  replace hms := hms.push he16 hn16
  replace hfr := hfr.push (fun b hb => Nat.le_trans hev.size (hn16 b hb).1)
  replace hev := hev.ext he16
  have ho16 := hw16 (fl [blk a16, blk a14, [b3], blk a6_l8, M])
  clear hw16
  refine x_pure 1 [(5, .slice a16 ((List.replicate (Int.toNat ((x12).length : Int)) 0 : List Int)).length c16)] _ _ _ (by kernel_rfl) ?_
  refine x_end rfl (k_then ?_)
  refine c_seq ?_
  refine c_seq (c_plain ?_)
  refine x_pure 1 [(38, .slice a6_l8 (x12).length c5)] _ _ _ (by kernel_rfl) ?_
  refine x_len (vs := [.slice a6_l8 (x12).length c5]) (.int .i64 ((x12).length : Int)) rfl rfl rfl (reads_len tsl22 _ _ _ _ _) ?_
  refine x_pure 1 [(40, .int .i64 0)] _ _ _ (by kernel_rfl) ?_
  refine x_end rfl (k_then ?_)
  refine c_norm [(1, .slice a_p1 (p1).length c_p1), (2, .pointer (some ⟨b3, 0, none⟩)), (4, .slice a14 ((List.replicate (Int.toNat ((x12).length : Int)) 0 : List Int)).length c14), (5, .slice a16 ((List.replicate (Int.toNat ((x12).length : Int)) 0 : List Int)).length c16), (38, .slice a6_l8 (x12).length c5), (39, .int .i64 ((x12).length : Int)), (40, .int .i64 0)] ⟨rfl, rfl, rfl, rfl, rfl, rfl, rfl, trivial⟩ (fun J => ?_)
  refine c_block ?_
  have hpk : MS w16 [[b3], blk a14, blk a16, blk a6_l8, M] := hms.pick [some 2, some 1, some 0, some 3, some 4] _ rfl
  have hsu : ∀ x ∈ fl [[b3], blk a14, blk a16, blk a6_l8, M], x ∈ fl [blk a16, blk a14, [b3], blk a6_l8, M] := pick_sub [some 2, some 1, some 0, some 3, some 4] _ rfl
  replace hs_p1 := hs_p1.sub hsu
  replace hs_p0_0 := hs_p0_0.sub hsu
  replace ho14 := ho14.sub hsu
  replace ho16 := ho16.sub hsu
  replace ho5 := ho5.sub hsu
  replace hms := hpk
  replace hfr : FR w.heap.size [[b3], blk a14, blk a16, blk a6_l8] := hfr.pick [some 2, some 1, some 0, some 3] _ rfl
  clear hpk hsu
  obtain ⟨d18, hd18, h18⟩ := bind_some h
  obtain ⟨m18, hd18⟩ := loop_some hd18
  refine c_loop (loop_rule hmx (σ := Nat × (List Int) × (List Int) × Int × Option Addr × Option Addr × Option Addr) (fun s => match s with | (_, d15_l18, d17_l18, t40__s40_l18, a15_l18, a17_l18, a6_l18) => [(1, .slice a_p1 (p1).length c_p1), (2, .pointer (some ⟨b3, 0, none⟩)), (4, .slice a15_l18 (d15_l18).length c14), (5, .slice a17_l18 (d17_l18).length c16), (38, .slice a6_l18 (x12).length c5), (39, .int .i64 ((x12).length : Int)), (40, .int .i64 t40__s40_l18)]) (fun s w' => match s with | (m, d15_l18, d17_l18, t40__s40_l18, a15_l18, a17_l18, a6_l18) => loopN (leastcode_solve_L18 p0_0 p0_1 p1 x12) m (d15_l18, d17_l18, t40__s40_l18) = some d18 ∧ Ev [] w w' ∧ MS w' [[b3], blk a15_l18, blk a17_l18, blk a6_l18, M] ∧ FR w.heap.size [[b3], blk a15_l18, blk a17_l18, blk a6_l18] ∧ SlR (eSl (eInt .i64)) w' (fl [[b3], blk a15_l18, blk a17_l18, blk a6_l18, M]) a_p1 c_p1 p1 ∧ SlR (eProd (eInt .i64) (eProd (eInt .i64) (eProd (eInt .i64) (eInt .i64)))) w' (fl [[b3], blk a15_l18, blk a17_l18, blk a6_l18, M]) a_p0_0 c_p0_0 p0_0 ∧ w'.heap[b3]? = some (.cells #[.slice a_p0_0 (p0_0).length c_p0_0, .int .i64 p0_1] 27 (0, 0)) ∧ OwnS (eInt .i64) 3 w' (fl [[b3], blk a15_l18, blk a17_l18, blk a6_l18, M]) a15_l18 c14 d15_l18 ∧ OwnS (eInt .i64) 3 w' (fl [[b3], blk a15_l18, blk a17_l18, blk a6_l18, M]) a17_l18 c16 d17_l18 ∧ OwnS (eInt .i64) 3 w' (fl [[b3], blk a15_l18, blk a17_l18, blk a6_l18, M]) a6_l18 c5 x12) (fun s => s.1) (m18, (List.replicate (Int.toNat ((x12).length : Int)) 0 : List Int), (List.replicate (Int.toNat ((x12).length : Int)) 0 : List Int), 0, a14, a16, a6_l8) ⟨rfl, rfl, rfl, rfl, rfl, rfl, rfl, trivial⟩ ⟨hd18, hev, hms, hfr, hs_p1, hs_p0_0, hb3, ho14, ho16, ho5⟩ ?_)
  rintro ⟨m18, d15_l18, d17_l18, t40__s40_l18, a15_l18, a17_l18, a6_l18⟩ J wl18 ⟨hn18, hev, hms, hfr, hs_p1, hs_p0_0, hb3, ho14, ho16, ho5⟩
  rcases m18 with _ | m18
  · exact (loopN_zero hn18).elim
  obtain ⟨t18, h, hn18⟩ := bind_some hn18
  refine c_seq (c_plain ?_)
  refine x_pure 1 [(41, .bool (decide (t40__s40_l18 < ((x12).length : Int))))] _ _ _ (by kernel_rfl) ?_
  refine x_end rfl (k_then ?_)
  refine c_norm [(1, .slice a_p1 (p1).length c_p1), (2, .pointer (some ⟨b3, 0, none⟩)), (4, .slice a15_l18 (d15_l18).length c14), (5, .slice a17_l18 (d17_l18).length c16), (38, .slice a6_l18 (x12).length c5), (39, .int .i64 ((x12).length : Int)), (40, .int .i64 t40__s40_l18), (41, .bool (decide (t40__s40_l18 < ((x12).length : Int))))] ⟨rfl, rfl, rfl, rfl, rfl, rfl, rfl, rfl, trivial⟩ (fun J => ?_)
  refine c_seq ?_
  refine c_cond (decide (t40__s40_l18 < ((x12).length : Int))) rfl (fun hb => ?_) (fun hb => ?_)
  · replace h := ite_t hb h
    refine c_skip ?_
    refine k_then ?_
    refine c_seq ?_
    refine c_block ?_
    refine c_seq (c_plain ?_)
    obtain ⟨x20, hx20, h⟩ := bind_some h
    obtain ⟨g20, cs20, ha, hr20, hc20, hR⟩ := own_index (Mo := []) tsl22 ho5 hx20
    subst ha
    obtain rfl := hR
    refine x_indexAddr (xv := .slice (some ⟨g20, 0, none⟩) (x12).length c5) (yv := .int .i64 t40__s40_l18) (.pointer (some ⟨g20, (Int.toNat t40__s40_l18) * (eInt .i64).n, none⟩)) rfl rfl rfl rfl hr20 ?_
    refine x_load (xv := .pointer (some ⟨g20, (Int.toNat t40__s40_l18) * (eInt .i64).n, none⟩)) (.int .i64 x20) rfl rfl rfl (reads_cell0 tcell3 hc20 (fun _ h => by cases h)) ?_
    refine x_pure 1 [(10, .int .i64 x20)] _ _ _ (by kernel_rfl) ?_
    refine x_end rfl (k_then ?_)
    refine c_seq ?_
    refine c_seq (c_plain ?_)
    refine x_fieldAddr (xv := .pointer (some ⟨b3, 0, none⟩)) (.pointer (some ⟨b3, 0, none⟩)) rfl rfl rfl (reads_field tfld27_0 _ _) ?_
    refine x_load (xv := .pointer (some ⟨b3, 0, none⟩)) (.slice a_p0_0 (p0_0).length c_p0_0) rfl rfl rfl (reads_box tcell25 hb3 nn 0 _ rfl) ?_
    refine x_len (vs := [.slice a_p0_0 (p0_0).length c_p0_0]) (.int .i64 ((p0_0).length : Int)) rfl rfl rfl (reads_len tsl25 _ _ _ _ _) ?_
    refine x_pure 1 [(47, .int .i64 0)] _ _ _ (by kernel_rfl) ?_
    refine x_end rfl (k_then ?_)
    refine c_block ?_
    obtain ⟨d23, hd23, h23⟩ := bind_some h
    obtain ⟨m23, hd23⟩ := loop_some hd23
    refine c_loop (loop_rule hmx (σ := Nat × (List Int) × Int × Option Addr × Option Addr) (fun s => match s with | (_, d15_l23, t47__s47_l23, a15_l23, a17_l23) => [(1, .slice a_p1 (p1).length c_p1), (2, .pointer (some ⟨b3, 0, none⟩)), (4, .slice a15_l23 (d15_l23).length c14), (5, .slice a17_l23 (d17_l18).length c16), (10, .int .i64 x20), (38, .slice (some ⟨g20, 0, none⟩) (x12).length c5), (39, .int .i64 ((x12).length : Int)), (40, .int .i64 t40__s40_l18), (46, .int .i64 ((p0_0).length : Int)), (47, .int .i64 t47__s47_l23)]) (fun s w' => match s with | (m, d15_l23, t47__s47_l23, a15_l23, a17_l23) => loopN (leastcode_solve_L23 p0_0 p1 d17_l18 x20) m (d15_l23, t47__s47_l23) = some d23 ∧ Ev [] w w' ∧ MS w' [[b3], blk a15_l23, blk a17_l23, blk (some ⟨g20, 0, none⟩), M] ∧ FR w.heap.size [[b3], blk a15_l23, blk a17_l23, blk (some ⟨g20, 0, none⟩)] ∧ SlR (eSl (eInt .i64)) w' (fl [[b3], blk a15_l23, blk a17_l23, blk (some ⟨g20, 0, none⟩), M]) a_p1 c_p1 p1 ∧ SlR (eProd (eInt .i64) (eProd (eInt .i64) (eProd (eInt .i64) (eInt .i64)))) w' (fl [[b3], blk a15_l23, blk a17_l23, blk (some ⟨g20, 0, none⟩), M]) a_p0_0 c_p0_0 p0_0 ∧ w'.heap[b3]? = some (.cells #[.slice a_p0_0 (p0_0).length c_p0_0, .int .i64 p0_1] 27 (0, 0)) ∧ OwnS (eInt .i64) 3 w' (fl [[b3], blk a15_l23, blk a17_l23, blk (some ⟨g20, 0, none⟩), M]) a15_l23 c14 d15_l23 ∧ OwnS (eInt .i64) 3 w' (fl [[b3], blk a15_l23, blk a17_l23, blk (some ⟨g20, 0, none⟩), M]) a17_l23 c16 d17_l18 ∧ OwnS (eInt .i64) 3 w' (fl [[b3], blk a15_l23, blk a17_l23, blk (some ⟨g20, 0, none⟩), M]) (some ⟨g20, 0, none⟩) c5 x12) (fun s => s.1) (m23, d15_l18, 0, a15_l18, a17_l18) ⟨rfl, rfl, rfl, rfl, rfl, rfl, rfl, rfl, rfl, rfl, trivial⟩ ⟨hd23, hev, hms, hfr, hs_p1, hs_p0_0, hb3, ho14, ho16, ho5⟩ ?_)
    rintro ⟨m23, d15_l23, t47__s47_l23, a15_l23, a17_l23⟩ J wl23 ⟨hn23, hev, hms, hfr, hs_p1, hs_p0_0, hb3, ho14, ho16, ho5⟩
    rcases m23 with _ | m23
    · exact (loopN_zero hn23).elim
    obtain ⟨t23, h, hn23⟩ := bind_some hn23
    refine c_seq (c_plain ?_)
    refine x_pure 1 [(48, .bool (decide (t47__s47_l23 < ((p0_0).length : Int))))] _ _ _ (by kernel_rfl) ?_
    refine x_end rfl (k_then ?_)
    refine c_norm [(1, .slice a_p1 (p1).length c_p1), (2, .pointer (some ⟨b3, 0, none⟩)), (4, .slice a15_l23 (d15_l23).length c14), (5, .slice a17_l23 (d17_l18).length c16), (10, .int .i64 x20), (38, .slice (some ⟨g20, 0, none⟩) (x12).length c5), (39, .int .i64 ((x12).length : Int)), (40, .int .i64 t40__s40_l18), (46, .int .i64 ((p0_0).length : Int)), (47, .int .i64 t47__s47_l23), (48, .bool (decide (t47__s47_l23 < ((p0_0).length : Int))))] ⟨rfl, rfl, rfl, rfl, rfl, rfl, rfl, rfl, rfl, rfl, rfl, trivial⟩ (fun J => ?_)
    refine c_seq ?_
    refine c_cond (decide (t47__s47_l23 < ((p0_0).length : Int))) rfl (fun hb => ?_) (fun hb => ?_)
    · replace h := ite_t hb h
      refine c_skip ?_
      refine k_then ?_
      refine c_seq ?_
      refine c_block ?_
      refine c_seq (c_plain ?_)
      refine x_pure 2 [(49, .int .i64 t47__s47_l23), (11, .int .i64 t47__s47_l23)] _ _ _ (by kernel_rfl) ?_
      refine x_end rfl (k_then ?_)
      refine c_seq (c_plain ?_)
      refine x_pure 2 [(50, .slice a_p1 (p1).length c_p1), (51, .int .i64 t47__s47_l23)] _ _ _ (by kernel_rfl) ?_
      obtain ⟨x25, hx25, h⟩ := bind_some h
      obtain ⟨ad25, cs25, hr25, hc25, hR⟩ := reads_index (Mo := []) tsl32 hs_p1 hx25
      obtain ⟨a26, c26, rfl, hs26⟩ := hR
      refine x_indexAddr (xv := .slice a_p1 (p1).length c_p1) (yv := .int .i64 t47__s47_l23) (.pointer (some ad25)) rfl rfl rfl rfl hr25 ?_
      refine x_load (xv := .pointer (some ad25)) (.slice a26 (x25).length c26) rfl rfl rfl (reads_cell0 tcell22 hc25 (fun _ h => by cases h)) ?_
      refine x_pure 1 [(54, .int .i64 x20)] _ _ _ (by kernel_rfl) ?_
      obtain ⟨x29, hx29, h⟩ := bind_some h
      obtain ⟨ad29, cs29, hr29, hc29, hR⟩ := reads_index (Mo := []) tsl22 hs26 hx29
      obtain rfl := hR
      refine x_indexAddr (xv := .slice a26 (x25).length c26) (yv := .int .i64 x20) (.pointer (some ad29)) rfl rfl rfl rfl hr29 ?_
      refine x_load (xv := .pointer (some ad29)) (.int .i64 x29) rfl rfl rfl (reads_cell0 tcell3 hc29 (fun _ h => by cases h)) ?_
      refine x_pure 1 [(12, .int .i64 x29)] _ _ _ (by kernel_rfl) ?_
      refine x_end rfl (k_then ?_)
      refine c_seq (c_plain ?_)
      refine x_pure 2 [(57, .int .i64 x29), (58, .bool (decide (x29 > 0)))] _ _ _ (by kernel_rfl) ?_
      refine x_end rfl (k_then ?_)
      refine c_cond (decide (x29 > 0)) rfl (fun hb => ?_) (fun hb => ?_)
      · replace h := ite_t hb h
        refine c_drawn [] [(0, false), (1, false), (2, false), (3, false), (4, false), (5, false), (6, false), (7, false), (8, false), (9, false), (10, false), (11, false), (12, false), (13, false), (14, false), (15, true)] _ (by kernel_rfl) rfl ?_
        have hst := Stp.ext (ls := [[b3], blk a15_l23, blk a17_l23, blk (some ⟨g20, 0, none⟩), M]) (Ev.drew wl23)
        replace hs_p1 := hs_p1.step hst
        replace hb3 := (Ev.drew wl23).box hb3 nn
        replace hs_p0_0 := hs_p0_0.step hst
        replace ho14 := ho14.step hst (Ev.drew wl23) nn2
        replace ho16 := ho16.step hst (Ev.drew wl23) nn2
        replace ho5 := ho5.step hst (Ev.drew wl23) nn2
        replace hms := hms.ev (Ev.drew wl23)
        replace hev := hev.ext (Ev.drew wl23)
        refine x_pure 4 [(59, .slice a15_l23 (d15_l23).length c14), (60, .int .i64 x20), (61, .slice a15_l23 (d15_l23).length c14), (62, .int .i64 x20)] _ _ _ (by kernel_rfl) ?_
        obtain ⟨x31, hx31, h⟩ := bind_some h
        obtain ⟨g31, cs31, ha, hr31, hc31, hR⟩ := own_index (Mo := []) tsl22 ho14 hx31
        subst ha
        obtain rfl := hR
        refine x_indexAddr (xv := .slice (some ⟨g31, 0, none⟩) (d15_l23).length c14) (yv := .int .i64 x20) (.pointer (some ⟨g31, (Int.toNat x20) * (eInt .i64).n, none⟩)) rfl rfl rfl rfl hr31 ?_
        refine x_load (xv := .pointer (some ⟨g31, (Int.toNat x20) * (eInt .i64).n, none⟩)) (.int .i64 x31) rfl rfl rfl (reads_cell0 tcell3 hc31 (fun _ h => by cases h)) ?_
        refine x_pure 2 [(65, .slice a17_l23 (d17_l18).length c16), (66, .int .i64 t47__s47_l23)] _ _ _ (by kernel_rfl) ?_
        obtain ⟨x33, hx33, h⟩ := bind_some h
        obtain ⟨g33, cs33, ha, hr33, hc33, hR⟩ := own_index (Mo := []) tsl22 ho16 hx33
        subst ha
        obtain rfl := hR
        refine x_indexAddr (xv := .slice (some ⟨g33, 0, none⟩) (d17_l18).length c16) (yv := .int .i64 t47__s47_l23) (.pointer (some ⟨g33, (Int.toNat t47__s47_l23) * (eInt .i64).n, none⟩)) rfl rfl rfl rfl hr33 ?_
        refine x_load (xv := .pointer (some ⟨g33, (Int.toNat t47__s47_l23) * (eInt .i64).n, none⟩)) (.int .i64 x33) rfl rfl rfl (reads_cell0 tcell3 hc33 (fun _ h => by cases h)) ?_
        refine x_pure 3 [(69, .int .i64 x29), (70, .int .i64 (IntKind.i64.wrap (x33 + x29))), (71, .int .i64 (IntKind.i64.wrap ((IntKind.i64.wrap (x33 + x29)) - 1)))] _ _ _ (by kernel_rfl) ?_
        refine x_max (vs := [.int .i64 x31, .int .i64 (IntKind.i64.wrap ((IntKind.i64.wrap (x33 + x29)) - 1))]) (.int .i64 (if (IntKind.i64.wrap ((IntKind.i64.wrap (x33 + x29)) - 1)) > x31 then (IntKind.i64.wrap ((IntKind.i64.wrap (x33 + x29)) - 1)) else x31)) rfl rfl rfl (fun _ _ => rfl) ?_
        obtain ⟨x35, hx35, h⟩ := bind_some h
        obtain ⟨g35, cs35, ha, hr35, hc35, hR⟩ := own_index (Mo := []) tsl22 ho14 hx35
        have hg : g31 = g35 := by cases ha; rfl
        subst hg
        obtain rfl := hR
        refine x_indexAddr (xv := .slice (some ⟨g31, 0, none⟩) (d15_l23).length c14) (yv := .int .i64 x20) (.pointer (some ⟨g31, (Int.toNat x20) * (eInt .i64).n, none⟩)) rfl rfl rfl rfl hr35 ?_
        obtain ⟨w37, hr37, he37, ho37⟩ := own_store (y := if (IntKind.i64.wrap ((IntKind.i64.wrap (x33 + x29)) - 1)) > x31 then (IntKind.i64.wrap ((IntKind.i64.wrap (x33 + x29)) - 1)) else x31) 0 (.int .i64 (if (IntKind.i64.wrap ((IntKind.i64.wrap (x33 + x29)) - 1)) > x31 then (IntKind.i64.wrap ((IntKind.i64.wrap (x33 + x29)) - 1)) else x31)) tcell3 ho14 (mem_flat 1 rfl _ (List.mem_singleton.2 rfl)) hx35 rfl rfl (fun _ _ _ hR => set_int hR)
        refine x_store w37 (xv := .pointer (some ⟨g31, (Int.toNat x20) * (eInt .i64).n, none⟩)) (yv := .int .i64 (if (IntKind.i64.wrap ((IntKind.i64.wrap (x33 + x29)) - 1)) > x31 then (IntKind.i64.wrap ((IntKind.i64.wrap (x33 + x29)) - 1)) else x31)) rfl rfl rfl rfl hr37 ?_
        refine ⟨.inl rfl, ?_⟩
        have hst := Stp.ev' (ls := [[b3], blk (some ⟨g31, 0, none⟩), blk (some ⟨g33, 0, none⟩), blk (some ⟨g20, 0, none⟩), M]) he37 (mem_flat 1 rfl)
        replace hs_p1 := hs_p1.step hst
        replace hb3 := he37.box hb3 (hms.apart 0 1 rfl rfl rfl _ (List.mem_singleton.2 rfl))
        replace hs_p0_0 := hs_p0_0.step hst
        replace ho16 := ho16.step hst he37 (hms.apart 2 1 rfl rfl rfl)
        replace ho5 := ho5.step hst he37 (hms.apart 3 1 rfl rfl rfl)
        replace hms := hms.ev he37
        replace hev := hev.then he37 (fun b hb => .inr (hfr.at 1 rfl b hb))
        replace ho14 := ho37
        have hsl : (Value.slice (some ⟨g31, 0, none⟩) (d15_l23).length c14) = (Value.slice (some ⟨g31, 0, none⟩) ((d15_l23.set (Int.toNat x20) (if (IntKind.i64.wrap ((IntKind.i64.wrap (x33 + x29)) - 1)) > x31 then (IntKind.i64.wrap ((IntKind.i64.wrap (x33 + x29)) - 1)) else x31))).length c14) := by first | (rw [List.length_set]; done) | simp only [List.length_set]
        try rw [hsl]
        clear hsl
        refine x_end rfl ?_
        refine k_block ?_
        refine k_then ?_
        refine c_norm [(1, .slice a_p1 (p1).length c_p1), (2, .pointer (some ⟨b3, 0, none⟩)), (4, .slice (some ⟨g31, 0, none⟩) ((d15_l23.set (Int.toNat x20) (if (IntKind.i64.wrap ((IntKind.i64.wrap (x33 + x29)) - 1)) > x31 then (IntKind.i64.wrap ((IntKind.i64.wrap (x33 + x29)) - 1)) else x31))).length c14), (5, .slice (some ⟨g33, 0, none⟩) (d17_l18).length c16), (10, .int .i64 x20), (38, .slice (some ⟨g20, 0, none⟩) (x12).length c5), (39, .int .i64 ((x12).length : Int)), (40, .int .i64 t40__s40_l18), (46, .int .i64 ((p0_0).length : Int)), (47, .int .i64 t47__s47_l23)] ⟨rfl, rfl, rfl, rfl, rfl, rfl, rfl, rfl, rfl, rfl, trivial⟩ (fun J => ?_)
        refine c_plain ?_
        refine x_pure 2 [(74, .int .i64 (IntKind.i64.wrap (t47__s47_l23 + 1))), (47, .int .i64 (IntKind.i64.wrap (t47__s47_l23 + 1)))] _ _ _ (by kernel_rfl) ?_
        refine x_end rfl ?_
        have hx := some_inj h
        subst hx
        exact k_then ⟨(m23, (d15_l23.set (Int.toNat x20) (if (IntKind.i64.wrap ((IntKind.i64.wrap (x33 + x29)) - 1)) > x31 then (IntKind.i64.wrap ((IntKind.i64.wrap (x33 + x29)) - 1)) else x31)), IntKind.i64.wrap (t47__s47_l23 + 1), (some ⟨g31, 0, none⟩), (some ⟨g33, 0, none⟩)), ⟨rfl, rfl, rfl, rfl, rfl, rfl, rfl, rfl, rfl, rfl, trivial⟩, ⟨hn23, hev, hms, hfr, hs_p1, hs_p0_0, hb3, ho14, ho16, ho5⟩, Nat.lt_succ_self _⟩
      replace h := ite_f hb h
      refine c_skip ?_
      refine k_block ?_
      refine k_then ?_
      refine c_norm [(1, .slice a_p1 (p1).length c_p1), (2, .pointer (some ⟨b3, 0, none⟩)), (4, .slice a15_l23 (d15_l23).length c14), (5, .slice a17_l23 (d17_l18).length c16), (10, .int .i64 x20), (38, .slice (some ⟨g20, 0, none⟩) (x12).length c5), (39, .int .i64 ((x12).length : Int)), (40, .int .i64 t40__s40_l18), (46, .int .i64 ((p0_0).length : Int)), (47, .int .i64 t47__s47_l23)] ⟨rfl, rfl, rfl, rfl, rfl, rfl, rfl, rfl, rfl, rfl, trivial⟩ (fun J => ?_)
      refine c_plain ?_
      refine x_pure 2 [(74, .int .i64 (IntKind.i64.wrap (t47__s47_l23 + 1))), (47, .int .i64 (IntKind.i64.wrap (t47__s47_l23 + 1)))] _ _ _ (by kernel_rfl) ?_
      refine x_end rfl ?_
      have hx := some_inj h
      subst hx
      exact k_then ⟨(m23, d15_l23, IntKind.i64.wrap (t47__s47_l23 + 1), a15_l23, a17_l23), ⟨rfl, rfl, rfl, rfl, rfl, rfl, rfl, rfl, rfl, rfl, trivial⟩, ⟨hn23, hev, hms, hfr, hs_p1, hs_p0_0, hb3, ho14, ho16, ho5⟩, Nat.lt_succ_self _⟩
    replace h := ite_f hb h
    refine c_exit ?_
    refine k_then_exit ?_
    have hx := some_inj h
    subst hx
    have hy := some_inj hn23
    subst hy
    replace h := h23
    refine k_then_exit ?_
    refine k_block_in ?_
    refine k_then ?_
    refine c_norm [(1, .slice a_p1 (p1).length c_p1), (2, .pointer (some ⟨b3, 0, none⟩)), (4, .slice a15_l23 (d15_l23).length c14), (5, .slice a17_l23 (d17_l18).length c16), (10, .int .i64 x20), (38, .slice (some ⟨g20, 0, none⟩) (x12).length c5), (39, .int .i64 ((x12).length : Int)), (40, .int .i64 t40__s40_l18)] ⟨rfl, rfl, rfl, rfl, rfl, rfl, rfl, rfl, trivial⟩ (fun J => ?_)
    refine c_seq ?_
    refine c_drawn [] [(0, false), (1, false), (2, false), (3, false), (4, false), (5, false), (6, false), (7, false), (8, false), (9, false), (10, false), (11, false), (12, false), (13, false), (14, false), (15, false), (16, false), (17, false)] _ (by kernel_rfl) rfl ?_
    have hst := Stp.ext (ls := [[b3], blk a15_l23, blk a17_l23, blk (some ⟨g20, 0, none⟩), M]) (Ev.drew wl23)
    replace hs_p1 := hs_p1.step hst
    replace hb3 := (Ev.drew wl23).box hb3 nn
    replace hs_p0_0 := hs_p0_0.step hst
    replace ho14 := ho14.step hst (Ev.drew wl23) nn2
    replace ho16 := ho16.step hst (Ev.drew wl23) nn2
    replace ho5 := ho5.step hst (Ev.drew wl23) nn2
    replace hms := hms.ev (Ev.drew wl23)
    replace hev := hev.ext (Ev.drew wl23)
    refine x_pure 2 [(76, .slice a15_l23 (d15_l23).length c14), (77, .int .i64 x20)] _ _ _ (by kernel_rfl) ?_
    obtain ⟨x38, hx38, h⟩ := bind_some h
    obtain ⟨g38, cs38, ha, hr38, hc38, hR⟩ := own_index (Mo := []) tsl22 ho14 hx38
    subst ha
    obtain rfl := hR
    refine x_indexAddr (xv := .slice (some ⟨g38, 0, none⟩) (d15_l23).length c14) (yv := .int .i64 x20) (.pointer (some ⟨g38, (Int.toNat x20) * (eInt .i64).n, none⟩)) rfl rfl rfl rfl hr38 ?_
    refine x_load (xv := .pointer (some ⟨g38, (Int.toNat x20) * (eInt .i64).n, none⟩)) (.int .i64 x38) rfl rfl rfl (reads_cell0 tcell3 hc38 (fun _ h => by cases h)) ?_
    refine x_fieldAddr (xv := .pointer (some ⟨b3, 0, none⟩)) (.pointer (some ⟨b3, 0, none⟩)) rfl rfl rfl (reads_field tfld27_0 _ _) ?_
    refine x_load (xv := .pointer (some ⟨b3, 0, none⟩)) (.slice a_p0_0 (p0_0).length c_p0_0) rfl rfl rfl (reads_box tcell25 hb3 nn 0 _ rfl) ?_
    refine x_pure 1 [(82, .int .i64 x20)] _ _ _ (by kernel_rfl) ?_
    obtain ⟨x40, hx40, h⟩ := bind_some h
    obtain ⟨ad40, cs40, hr40, hc40, hR⟩ := reads_index (Mo := []) tsl25 hs_p0_0 hx40
    obtain ⟨_, _, rfl, rfl, ⟨_, _, rfl, rfl, ⟨_, _, rfl, rfl, rfl⟩⟩⟩ := hR
    refine x_indexAddr (xv := .slice a_p0_0 (p0_0).length c_p0_0) (yv := .int .i64 x20) (.pointer (some ad40)) rfl rfl rfl rfl hr40 ?_
    refine x_fieldAddr (xv := .pointer (some ad40)) (.pointer (some (Addr.add ad40 2))) rfl rfl rfl (reads_field tfld39_2 _ _) ?_
    refine x_load (xv := .pointer (some (Addr.add ad40 2))) (.int .i64 x40.2.2.1) rfl rfl rfl (reads_cell tcell3 hc40 (fun _ h => by cases h) 2 _ rfl) ?_
    refine x_fieldAddr (xv := .pointer (some ⟨b3, 0, none⟩)) (.pointer (some ⟨b3, 1, none⟩)) rfl rfl rfl (reads_field tfld27_1 _ _) ?_
    refine x_load (xv := .pointer (some ⟨b3, 1, none⟩)) (.int .i64 p0_1) rfl rfl rfl (reads_box tcell3 hb3 nn 1 _ rfl) ?_
    obtain ⟨x42, hx, h⟩ := bind_some h
    have hcall := code_Next_w x38 x40.2.2.1 p0_1 _ (wl23).drew hx
    refine x_call 55 #[] #[] [.int .i64 x38, .int .i64 x40.2.2.1, .int .i64 p0_1] _ rfl rfl rfl rfl hcall ?_
    rintro v w43 ⟨rfl, he43⟩
    clear hcall hx
    refine ⟨.inr he43, ?_⟩
    have hst := Stp.ext (ls := [[b3], blk (some ⟨g38, 0, none⟩), blk a17_l23, blk (some ⟨g20, 0, none⟩), M]) he43
    replace hs_p1 := hs_p1.step hst
    replace hb3 := he43.box hb3 nn
    replace hs_p0_0 := hs_p0_0.step hst
    replace ho14 := ho14.step hst he43 nn2
    replace ho16 := ho16.step hst he43 nn2
    replace ho5 := ho5.step hst he43 nn2
    replace hc40 := hc40.step hst
    replace hms := hms.ev he43
    replace hev := hev.ext he43
    refine x_pure 5 [(75, .tuple #[.int .i64 x42.1, .int .i64 x42.2]), (89, .int .i64 x42.1), (90, .int .i64 x42.2), (13, .int .i64 x42.1), (14, .int .i64 x42.2)] _ _ _ (by kernel_rfl) ?_
    refine x_end rfl (k_then ?_)
    refine c_norm [(1, .slice a_p1 (p1).length c_p1), (2, .pointer (some ⟨b3, 0, none⟩)), (4, .slice (some ⟨g38, 0, none⟩) (d15_l23).length c14), (5, .slice a17_l23 (d17_l18).length c16), (10, .int .i64 x20), (13, .int .i64 x42.1), (14, .int .i64 x42.2), (38, .slice (some ⟨g20, 0, none⟩) (x12).length c5), (39, .int .i64 ((x12).length : Int)), (40, .int .i64 t40__s40_l18)] ⟨rfl, rfl, rfl, rfl, rfl, rfl, rfl, rfl, rfl, rfl, trivial⟩ (fun J => ?_)
    refine c_seq ?_
    refine c_seq (c_plain ?_)
    refine x_pure 2 [(91, .int .i64 x42.2), (92, .bool (x42.2 != 0))] _ _ _ (by kernel_rfl) ?_
    refine x_end rfl (k_then ?_)
    refine c_cond (x42.2 != 0) rfl (fun hb => ?_) (fun hb => ?_)
    · replace h := ite_t hb h
      refine c_seq (c_plain ?_)
      refine x_pure 4 [(93, .int .i64 x42.2), (4, .slice none 0 0), (5, .slice none 0 0), (6, .int .i64 x42.2)] _ _ _ (by kernel_rfl) ?_
      refine x_end rfl (k_then ?_)
      refine c_ret ?_
      refine k_then_ret ?_
      refine k_block_ret ?_
      refine k_then_ret ?_
      have hx := some_inj h
      subst hx
      have hy := some_inj hn18
      subst hy
      replace h := h18
      refine k_then_ret ?_
      refine k_block_ret ?_
      refine k_then_ret ?_
      refine r_ret (r_vals [.slice none 0 0, .slice none 0 0, .int .i64 x42.2] ⟨rfl, rfl, rfl, trivial⟩ ?_)
      have hx := some_inj h
      subst hx
      have hmr : MS w43 [blk none, blk none, M] := hms.pick [none, none, some 4] _ rfl
      have hsu : ∀ x ∈ fl [blk none, blk none, M], x ∈ fl [[b3], blk (some ⟨g38, 0, none⟩), blk a17_l23, blk (some ⟨g20, 0, none⟩), M] := pick_sub [none, none, some 4] _ rfl
      have hfe : FR w.heap.size [blk none, blk none] := hfr.pick [none, none] _ rfl
      exact ⟨none, 0, none, 0, rfl, hev, hmr, hfe, OwnS.nil _ _ _ _, OwnS.nil _ _ _ _⟩
    replace h := ite_f hb h
    refine c_skip ?_
    refine k_then ?_
    refine c_plain ?_
    refine x_pure 3 [(94, .slice a17_l23 (d17_l18).length c16), (95, .int .i64 x20), (96, .int .i64 x42.1)] _ _ _ (by kernel_rfl) ?_
    obtain ⟨x44, hx44, h⟩ := bind_some h
    obtain ⟨g44, cs44, ha, hr44, hc44, hR⟩ := own_index (Mo := []) tsl22 ho16 hx44
    subst ha
    obtain rfl := hR
    refine x_indexAddr (xv := .slice (some ⟨g44, 0, none⟩) (d17_l18).length c16) (yv := .int .i64 x20) (.pointer (some ⟨g44, (Int.toNat x20) * (eInt .i64).n, none⟩)) rfl rfl rfl rfl hr44 ?_
    obtain ⟨w46, hr46, he46, ho46⟩ := own_store (y := x42.1) 0 (.int .i64 x42.1) tcell3 ho16 (mem_flat 2 rfl _ (List.mem_singleton.2 rfl)) hx44 rfl rfl (fun _ _ _ hR => set_int hR)
    refine x_store w46 (xv := .pointer (some ⟨g44, (Int.toNat x20) * (eInt .i64).n, none⟩)) (yv := .int .i64 x42.1) rfl rfl rfl rfl hr46 ?_
    refine ⟨.inl rfl, ?_⟩
    have hst := Stp.ev' (ls := [[b3], blk (some ⟨g38, 0, none⟩), blk (some ⟨g44, 0, none⟩), blk (some ⟨g20, 0, none⟩), M]) he46 (mem_flat 2 rfl)
    replace hs_p1 := hs_p1.step hst
    replace hb3 := he46.box hb3 (hms.apart 0 2 rfl rfl rfl _ (List.mem_singleton.2 rfl))
    replace hs_p0_0 := hs_p0_0.step hst
    replace ho14 := ho14.step hst he46 (hms.apart 1 2 rfl rfl rfl)
    replace ho5 := ho5.step hst he46 (hms.apart 3 2 rfl rfl rfl)
    replace hms := hms.ev he46
    replace hev := hev.then he46 (fun b hb => .inr (hfr.at 2 rfl b hb))
    replace ho16 := ho46
    have hsl : (Value.slice (some ⟨g44, 0, none⟩) (d17_l18).length c16) = (Value.slice (some ⟨g44, 0, none⟩) ((d17_l18.set (Int.toNat x20) x42.1)).length c16) := by first | (rw [List.length_set]; done) | simp only [List.length_set]
    try rw [hsl]
    clear hsl
    refine x_end rfl ?_
    refine k_block ?_
    refine k_then ?_
    refine c_plain ?_
    refine x_pure 2 [(98, .int .i64 (IntKind.i64.wrap (t40__s40_l18 + 1))), (40, .int .i64 (IntKind.i64.wrap (t40__s40_l18 + 1)))] _ _ _ (by kernel_rfl) ?_
    refine x_end rfl ?_
    have hx := some_inj h
    subst hx
    exact k_then ⟨(m18, d15_l23, (d17_l18.set (Int.toNat x20) x42.1), IntKind.i64.wrap (t40__s40_l18 + 1), (some ⟨g38, 0, none⟩), (some ⟨g44, 0, none⟩), (some ⟨g20, 0, none⟩)), ⟨rfl, rfl, rfl, rfl, rfl, rfl, rfl, trivial⟩, ⟨hn18, hev, hms, hfr, hs_p1, hs_p0_0, hb3, ho14, ho16, ho5⟩, Nat.lt_succ_self _⟩
  replace h := ite_f hb h
  refine c_exit ?_
  refine k_then_exit ?_
  have hx := some_inj h
  subst hx
  have hy := some_inj hn18
  subst hy
  replace h := h18
  refine k_then_exit ?_
  refine k_block_in ?_
  refine k_then ?_
  refine c_norm [(4, .slice a15_l18 (d15_l18).length c14), (5, .slice a17_l18 (d17_l18).length c16)] ⟨rfl, rfl, trivial⟩ (fun J => ?_)
  refine c_seq (c_plain ?_)
  refine x_pure 5 [(99, .slice a15_l18 (d15_l18).length c14), (100, .slice a17_l18 (d17_l18).length c16), (4, .slice a15_l18 (d15_l18).length c14), (5, .slice a17_l18 (d17_l18).length c16), (6, .int .i64 0)] _ _ _ (by kernel_rfl) ?_
  refine x_end rfl (k_then ?_)
  refine c_ret ?_
  refine r_ret (r_vals [.slice a15_l18 (d15_l18).length c14, .slice a17_l18 (d17_l18).length c16, .int .i64 0] ⟨rfl, rfl, rfl, trivial⟩ ?_)
  have hx := some_inj h
  subst hx
  have hmr : MS wl18 [blk a15_l18, blk a17_l18, M] := hms.pick [some 1, some 2, some 4] _ rfl
  have hsu : ∀ x ∈ fl [blk a15_l18, blk a17_l18, M], x ∈ fl [[b3], blk a15_l18, blk a17_l18, blk a6_l18, M] := pick_sub [some 1, some 2, some 4] _ rfl
  have hfe : FR w.heap.size [blk a15_l18, blk a17_l18] := hfr.pick [some 1, some 2] _ rfl
  exact ⟨a15_l18, c14, a17_l18, c16, rfl, hev, hmr, hfe, ho14.sub hsu, ho16.sub hsu⟩
def leastcode_Least_L22 (x13 : (List Int) × (List Int) × Int) (s : Int × Int) : Option (Step (Int × Int) Int) :=
match s with
| (e20_l22_0, t35__s35_l22) =>
(if (decide (t35__s35_l22 < ((x13.2.1).length : Int))) = true then
((idx x13.2.1 t35__s35_l22).bind fun x24 =>
((code_Steps x24).bind fun x26 =>
some (.next (if x26.1 > e20_l22_0 then x26.1 else e20_l22_0, IntKind.i64.wrap (t35__s35_l22 + 1)))))
else
some (.done e20_l22_0))

def leastcode_Least (p0_0 : List (Int × Int × Int × Int)) (p0_1 : Int) : Option ((Int × (List Int)) × Int) :=
((job_Valid p0_0 p0_1).bind fun x7 =>
(if (x7 != 0) = true then
some ((0, []), x7)
else
((leastcode_relations p0_0 p0_1).bind fun x10 =>
((leastcode_solve p0_0 p0_1 x10).bind fun x13 =>
(if (x13.2.2 != 0) = true then
some ((0, []), x13.2.2)
else
((loop (leastcode_Least_L22 x13) (0, 0)).bind fun d => match d with
| e20_x22_0 => some ((e20_x22_0, x13.2.1), 0)))))))

theorem leastcode_Least_w (a_p0_0 : Option Addr) (c_p0_0 : Nat) (p0_0 : List (Int × Int × Int × Int)) (p0_1 : Int) (r : (Int × (List Int)) × Int) (w : World) (M : List Nat) (hms : MS w [M]) (hs_p0_0 : SlR (eProd (eInt .i64) (eProd (eInt .i64) (eProd (eInt .i64) (eInt .i64)))) w (fl [M]) a_p0_0 c_p0_0 p0_0) (h : leastcode_Least p0_0 p0_1 = some r) : CallVC Try.prog 27 [.agg #[.slice a_p0_0 (p0_0).length c_p0_0, .int .i64 p0_1]] w fun v w' => ∃ (a0' : Option Addr), ∃ (c0' : Nat), v = .tuple #[.agg #[.int .i64 r.1.1, .slice a0' (r.1.2).length c0'], .int .i64 r.2] ∧ Ev [] w w' ∧ MS w' [blk a0', M] ∧ FR w.heap.size [blk a0'] ∧ OwnS (eInt .i64) 3 w' (fl [blk a0', M]) a0' c0' r.1.2 := by
  refine calls_vc hmx Try.func27 (by kernel_rfl) rfl (rs := [.cell 2 30, .tmp 3]) rfl (by kernel_rfl) (args := [.agg #[.slice a_p0_0 (p0_0).length c_p0_0, .int .i64 p0_1]]) rfl ?_
  have hev : Ev [] w w := Ev.refl _ _
  have hfr : FR w.heap.size [] := FR.nil _
  refine c_seq (c_plain ?_)
  refine x_box (xv := .agg #[.slice a_p0_0 (p0_0).length c_p0_0, .int .i64 p0_1]) rfl rfl rfl (fun b2 w2 hq2 hb2 he2 hz2 => ?_)
  replace hb2 : w2.heap[b2]? = some (.cells #[.slice a_p0_0 (p0_0).length c_p0_0, .int .i64 p0_1] 27 (0, 0)) := hb2
  refine ⟨.inl rfl, ?_⟩
  have hst := Stp.box (ls := [M]) he2 hq2
  replace hs_p0_0 := hs_p0_0.step hst
  replace hms := hms.box he2 hq2 hb2
  replace hfr := hfr.box hev.size hq2
  replace hev := hev.ext he2
  refine x_alloc (z := .agg #[.int .i64 0, .slice none 0 0]) rfl rfl (by kernel_rfl) (fun b4 w4 hq4 hb4 he4 hz4 => ?_)
  replace hb4 : w4.heap[b4]? = some (.cells #[.int .i64 0, .slice none 0 0] 30 (0, 0)) := hb4
  refine ⟨.inl rfl, ?_⟩
  have hst := Stp.box (ls := [[b2], M]) he4 hq4
  replace hs_p0_0 := hs_p0_0.step hst
  replace hb2 := he4.box hb2 nn
  replace hms := hms.box he4 hq4 hb4
  replace hfr := hfr.box hev.size hq4
  replace hev := hev.ext he4
  refine x_pure 1 [(3, .int .i64 0)] _ _ _ (by kernel_rfl) ?_
  refine x_end rfl (k_then ?_)
  refine c_seq ?_
  refine c_seq (c_plain ?_)
  refine x_load (xv := .pointer (some ⟨b2, 0, none⟩)) (.agg #[.slice a_p0_0 (p0_0).length c_p0_0, .int .i64 p0_1]) rfl rfl rfl (reads_boxagg 0 [.slice a_p0_0 (p0_0).length c_p0_0, .int .i64 p0_1] tagg27 hb2 nn rfl) ?_
  obtain ⟨x7, hx, h⟩ := bind_some h
  have hpk : MS w4 ([] ++ [[b4], [b2], M]) := hms.pick [some 0, some 1, some 2] _ rfl
  have hsb0 : ∀ x ∈ fl ([] ++ [[b4], [b2], M]), x ∈ fl [[b4], [b2], M] := pick_sub [some 0, some 1, some 2] _ rfl
  have hsb : ∀ x ∈ fl ([] ++ [(fl [[b4], [b2], M])]), x ∈ fl [[b4], [b2], M] := fun x hx => hsb0 x (fl_unfold x hx)
  have hcall := job_Valid_w a_p0_0 c_p0_0 p0_0 p0_1 _ w4 (fl [[b4], [b2], M]) (MS.fold (P := []) hpk) (hs_p0_0.sub hsb) hx
  refine x_call 41 #[] #[] [.agg #[.slice a_p0_0 (p0_0).length c_p0_0, .int .i64 p0_1]] _ rfl rfl rfl rfl hcall ?_
  rintro v w8 ⟨rfl, he8⟩
  clear hcall hx
  refine ⟨.inl rfl, ?_⟩
  have hst := Stp.ext (ls := [[b4], [b2], M]) he8
  replace hs_p0_0 := hs_p0_0.step hst
  replace hb2 := he8.box hb2 nn
  replace hb4 := he8.box hb4 nn
  replace hms := hms.ev he8
  replace hev := hev.ext he8
  clear hpk hsb hsb0
  refine x_pure 1 [(4, .int .i64 x7)] _ _ _ (by kernel_rfl) ?_
  refine x_end rfl (k_then ?_)
  refine c_seq (c_plain ?_)
  refine x_pure 2 [(15, .int .i64 x7), (16, .bool (x7 != 0))] _ _ _ (by kernel_rfl) ?_
  refine x_end rfl (k_then ?_)
  refine c_cond (x7 != 0) rfl (fun hb => ?_) (fun hb => ?_)
  · replace h := ite_t hb h
    refine c_seq (c_plain ?_)
    refine x_build (vs := []) (.agg #[.int .i64 0, .slice none 0 0]) rfl rfl rfl (fun _ _ => by kernel_rfl) ?_
    refine x_pure 1 [(18, .int .i64 x7)] _ _ _ (by kernel_rfl) ?_
    obtain ⟨w9, hr9, hb9, he9⟩ := store_boxagg 0 [.int .i64 0, .slice none 0 0] #[.int .i64 0, .slice none 0 0] tagg30 hb4 rfl rfl rfl
    refine x_store w9 (xv := .pointer (some ⟨b4, 0, none⟩)) (yv := .agg #[.int .i64 0, .slice none 0 0]) rfl rfl rfl rfl hr9 ?_
    refine ⟨.inl rfl, ?_⟩
    have hst := Stp.ev' (ls := [[b4], [b2], M]) he9 (mem_flat 0 rfl)
    replace hs_p0_0 := hs_p0_0.step hst
    replace hb2 := he9.box hb2 (hms.apart 1 0 rfl rfl rfl _ (List.mem_singleton.2 rfl))
    replace hms := hms.ev he9
    replace hev := hev.then he9 (fun b hb => .inr (hfr.at 0 rfl b hb))
    replace hb4 := hb9
    refine x_pure 1 [(3, .int .i64 x7)] _ _ _ (by kernel_rfl) ?_
    refine x_end rfl (k_then ?_)
    refine c_ret ?_
    refine k_then_ret ?_
    refine r_ret (r_vals [.agg #[.int .i64 0, .slice none 0 0], .int .i64 x7] ⟨⟨_, rfl, loadVar_of_reads (reads_boxagg (Mo := []) 0 [.int .i64 0, .slice none 0 0] tagg30 hb4 nn rfl)⟩, rfl, trivial⟩ ?_)
    have hx := some_inj h
    subst hx
    have hmr : MS w9 [blk none, M] := hms.pick [none, some 2] _ rfl
    have hsu : ∀ x ∈ fl [blk none, M], x ∈ fl [[b4], [b2], M] := pick_sub [none, some 2] _ rfl
    have hfe : FR w.heap.size [blk none] := hfr.pick [none] _ rfl
    exact ⟨none, 0, rfl, hev, hmr, hfe, OwnS.nil _ _ _ _⟩
  replace h := ite_f hb h
  refine c_skip ?_
  refine k_then ?_
  refine c_seq ?_
  refine c_drawn [] [(0, false), (1, false), (2, false), (3, false), (4, false), (5, false), (6, false), (7, false), (8, false), (9, false), (10, false)] _ (by kernel_rfl) rfl ?_
  have hst := Stp.ext (ls := [[b4], [b2], M]) (Ev.drew w8)
  replace hs_p0_0 := hs_p0_0.step hst
  replace hb2 := (Ev.drew w8).box hb2 nn
  replace hb4 := (Ev.drew w8).box hb4 nn
  replace hms := hms.ev (Ev.drew w8)
  replace hev := hev.ext (Ev.drew w8)
  refine x_load (xv := .pointer (some ⟨b2, 0, none⟩)) (.agg #[.slice a_p0_0 (p0_0).length c_p0_0, .int .i64 p0_1]) rfl rfl rfl (reads_boxagg 0 [.slice a_p0_0 (p0_0).length c_p0_0, .int .i64 p0_1] tagg27 hb2 nn rfl) ?_
  refine x_load (xv := .pointer (some ⟨b2, 0, none⟩)) (.agg #[.slice a_p0_0 (p0_0).length c_p0_0, .int .i64 p0_1]) rfl rfl rfl (reads_boxagg 0 [.slice a_p0_0 (p0_0).length c_p0_0, .int .i64 p0_1] tagg27 hb2 nn rfl) ?_
  obtain ⟨x10, hx, h⟩ := bind_some h
  have hpk : MS (w8).drew ([] ++ [[b4], [b2], M]) := hms.pick [some 0, some 1, some 2] _ rfl
  have hsb0 : ∀ x ∈ fl ([] ++ [[b4], [b2], M]), x ∈ fl [[b4], [b2], M] := pick_sub [some 0, some 1, some 2] _ rfl
  have hsb : ∀ x ∈ fl ([] ++ [(fl [[b4], [b2], M])]), x ∈ fl [[b4], [b2], M] := fun x hx => hsb0 x (fl_unfold x hx)
  have hcall := leastcode_relations_w a_p0_0 c_p0_0 p0_0 p0_1 _ (w8).drew (fl [[b4], [b2], M]) (MS.fold (P := []) hpk) (hs_p0_0.sub hsb) hx
  refine x_call 43 #[] #[] [.agg #[.slice a_p0_0 (p0_0).length c_p0_0, .int .i64 p0_1]] _ rfl rfl rfl rfl hcall ?_
  rintro v w11 ⟨a0_11, c0_11, B2_11, rfl, he11, hmn11, hfn11, hf11_1⟩
  clear hcall hx
  refine ⟨.inr he11, ?_⟩
  have hpk2 : MS (w8).drew ([] ++ [[b4], [b2], M]) := hms.pick [some 0, some 1, some 2] _ rfl
  have hsb2 : ∀ x ∈ fl ([] ++ [[b4], [b2], M]), x ∈ fl [[b4], [b2], M] := pick_sub [some 0, some 1, some 2] _ rfl
  have hst0 := Stp.call (LS := [[b4], [b2], M]) (res := [B2_11]) (par := []) (R := [[b4], [b2], M]) he11 (fun b hb => hsb2 b (fl_left' (P := []) b hb)) hfn11 (NP.init _ _) (fun x hx => hsb2 x (fl_right' (P := []) x hx))
  have hsn : ∀ x ∈ fl [B2_11, [b4], [b2], M], x ∈ fl ([B2_11] ++ ([] ++ [[b4], [b2], M])) := pick_sub [some 0, some 1, some 2, some 3] _ rfl
  have hst := hst0.res hsn
  replace hs_p0_0 := hs_p0_0.step hst
  replace hb2 := he11.box hb2 ((MS.outs (P := []) hpk2 1 rfl) _ (List.mem_singleton.2 rfl))
  replace hb4 := he11.box hb4 ((MS.outs (P := []) hpk2 0 rfl) _ (List.mem_singleton.2 rfl))
  replace hms : MS w11 [B2_11, [b4], [b2], M] := (MS.call (P := []) (R := [[b4], [b2], M]) (res := [B2_11]) (par := []) hpk2 he11 hmn11 hfn11 (NP.init _ _)).pick [some 0, some 1, some 2, some 3] _ rfl
  have hfr2 : FR w.heap.size [B2_11, [b4], [b2]] := (FR.cons (fun b hb => Nat.le_trans hev.size (hfn11.at 0 rfl b hb)) (FR.cons (hfr.at 0 rfl) (FR.cons (hfr.at 1 rfl) (FR.nil _))))
  replace hev := hev.ext he11
  replace hfr := hfr2
  clear hfr2
  clear hpk hsb hsb0 hpk2 hsb2 hst0 hsn hst
  obtain ⟨x13, hx, h⟩ := bind_some h
  have hpk : MS w11 ([] ++ [[b4], [b2], M]) := hms.pick [some 1, some 2, some 3] _ rfl
  have hsb0 : ∀ x ∈ fl ([] ++ [[b4], [b2], M]), x ∈ fl [B2_11, [b4], [b2], M] := pick_sub [some 1, some 2, some 3] _ rfl
  have hsb : ∀ x ∈ fl ([] ++ [(fl [[b4], [b2], M])]), x ∈ fl [B2_11, [b4], [b2], M] := fun x hx => hsb0 x (fl_unfold x hx)
  have hcall := leastcode_solve_w a_p0_0 c_p0_0 p0_0 p0_1 a0_11 c0_11 x10 _ w11 (fl [[b4], [b2], M]) (MS.fold (P := []) hpk) (hs_p0_0.sub hsb) (OwnR.ro (plain_int _) hf11_1 (fun b hb hb2 => pick_out hms 0 rfl [some 1, some 2, some 3] ([] ++ [[b4], [b2], M]) rfl rfl b hb (fl_unfold b hb2))) hx
  refine x_call 42 #[] #[] [.agg #[.slice a_p0_0 (p0_0).length c_p0_0, .int .i64 p0_1], .slice a0_11 (x10).length c0_11] _ rfl rfl rfl rfl hcall ?_
  rintro v w14 ⟨a0_14, c0_14, a2_14, c2_14, rfl, he14, hmn14, hfn14, hf14_1, hf14_2⟩
  clear hcall hx
  refine ⟨.inr he14, ?_⟩
  have hpk2 : MS w11 ([] ++ [B2_11, [b4], [b2], M]) := hms.pick [some 0, some 1, some 2, some 3] _ rfl
  have hsb2 : ∀ x ∈ fl ([] ++ [B2_11, [b4], [b2], M]), x ∈ fl [B2_11, [b4], [b2], M] := pick_sub [some 0, some 1, some 2, some 3] _ rfl
  have hst0 := Stp.call (LS := [B2_11, [b4], [b2], M]) (res := [blk a0_14, blk a2_14]) (par := []) (R := [B2_11, [b4], [b2], M]) he14 (fun b hb => hsb2 b (fl_left' (P := []) b hb)) hfn14 (NP.init _ _) (fun x hx => hsb2 x (fl_right' (P := []) x hx))
  have hsn : ∀ x ∈ fl [blk a0_14, blk a2_14, B2_11, [b4], [b2], M], x ∈ fl ([blk a0_14, blk a2_14] ++ ([] ++ [B2_11, [b4], [b2], M])) := pick_sub [some 0, some 1, some 2, some 3, some 4, some 5] _ rfl
  have hst := hst0.res hsn
  replace hs_p0_0 := hs_p0_0.step hst
  replace hb2 := he14.box hb2 ((MS.outs (P := []) hpk2 2 rfl) _ (List.mem_singleton.2 rfl))
  replace hb4 := he14.box hb4 ((MS.outs (P := []) hpk2 1 rfl) _ (List.mem_singleton.2 rfl))
  replace hf11_1 := hf11_1.step (plain_int _) he14 (MS.outs (P := []) hpk2 0 rfl)
  replace hms : MS w14 [blk a0_14, blk a2_14, B2_11, [b4], [b2], M] := (MS.call (P := []) (R := [B2_11, [b4], [b2], M]) (res := [blk a0_14, blk a2_14]) (par := []) hpk2 he14 hmn14 hfn14 (NP.init _ _)).pick [some 0, some 1, some 2, some 3, some 4, some 5] _ rfl
  have hfr2 : FR w.heap.size [blk a0_14, blk a2_14, B2_11, [b4], [b2]] := (FR.cons (fun b hb => Nat.le_trans hev.size (hfn14.at 0 rfl b hb)) (FR.cons (fun b hb => Nat.le_trans hev.size (hfn14.at 1 rfl b hb)) (FR.cons (hfr.at 0 rfl) (FR.cons (hfr.at 1 rfl) (FR.cons (hfr.at 2 rfl) (FR.nil _))))))
  replace hev := hev.ext he14
  replace hfr := hfr2
  clear hfr2
  replace hf14_1 := OwnS.plain (M' := fl [blk a0_14, blk a2_14, B2_11, [b4], [b2], M]) (plain_int _) hf14_1
  replace hf14_2 := OwnS.plain (M' := fl [blk a0_14, blk a2_14, B2_11, [b4], [b2], M]) (plain_int _) hf14_2
  clear hpk hsb hsb0 hpk2 hsb2 hst0 hsn hst
  refine x_pure 7 [(19, .tuple #[.slice a0_14 (x13.1).length c0_14, .slice a2_14 (x13.2.1).length c2_14, .int .i64 x13.2.2]), (24, .slice a0_14 (x13.1).length c0_14), (25, .slice a2_14 (x13.2.1).length c2_14), (26, .int .i64 x13.2.2), (5, .slice a0_14 (x13.1).length c0_14), (6, .slice a2_14 (x13.2.1).length c2_14), (7, .int .i64 x13.2.2)] _ _ _ (by kernel_rfl) ?_
  refine x_end rfl (k_then ?_)
  refine c_norm [(2, .pointer (some ⟨b4, 0, none⟩)), (6, .slice a2_14 (x13.2.1).length c2_14), (7, .int .i64 x13.2.2)] ⟨rfl, rfl, rfl, trivial⟩ (fun J => ?_)
  refine c_seq ?_
  refine c_seq (c_plain ?_)
  refine x_pure 2 [(27, .int .i64 x13.2.2), (28, .bool (x13.2.2 != 0))] _ _ _ (by kernel_rfl) ?_
  refine x_end rfl (k_then ?_)
  refine c_cond (x13.2.2 != 0) rfl (fun hb => ?_) (fun hb => ?_)
  · replace h := ite_t hb h
    refine c_seq (c_plain ?_)
    refine x_build (vs := []) (.agg #[.int .i64 0, .slice none 0 0]) rfl rfl rfl (fun _ _ => by kernel_rfl) ?_
    refine x_pure 1 [(30, .int .i64 x13.2.2)] _ _ _ (by kernel_rfl) ?_
    obtain ⟨w18, hr18, hb18, he18⟩ := store_boxagg 0 [.int .i64 0, .slice none 0 0] #[.int .i64 0, .slice none 0 0] tagg30 hb4 rfl rfl rfl
    refine x_store w18 (xv := .pointer (some ⟨b4, 0, none⟩)) (yv := .agg #[.int .i64 0, .slice none 0 0]) rfl rfl rfl rfl hr18 ?_
    refine ⟨.inl rfl, ?_⟩
    have hst := Stp.ev' (ls := [blk a0_14, blk a2_14, B2_11, [b4], [b2], M]) he18 (mem_flat 3 rfl)
    replace hs_p0_0 := hs_p0_0.step hst
    replace hb2 := he18.box hb2 (hms.apart 4 3 rfl rfl rfl _ (List.mem_singleton.2 rfl))
    replace hf11_1 := hf11_1.step (plain_int _) he18 (hms.apart 2 3 rfl rfl rfl)
    replace hf14_1 := hf14_1.step hst he18 (hms.apart 0 3 rfl rfl rfl)
    replace hf14_2 := hf14_2.step hst he18 (hms.apart 1 3 rfl rfl rfl)
    replace hms := hms.ev he18
    replace hev := hev.then he18 (fun b hb => .inr (hfr.at 3 rfl b hb))
    replace hb4 := hb18
    refine x_pure 1 [(3, .int .i64 x13.2.2)] _ _ _ (by kernel_rfl) ?_
    refine x_end rfl (k_then ?_)
    refine c_ret ?_
    refine k_then_ret ?_
    refine r_ret (r_vals [.agg #[.int .i64 0, .slice none 0 0], .int .i64 x13.2.2] ⟨⟨_, rfl, loadVar_of_reads (reads_boxagg (Mo := []) 0 [.int .i64 0, .slice none 0 0] tagg30 hb4 nn rfl)⟩, rfl, trivial⟩ ?_)
    have hx := some_inj h
    subst hx
    have hmr : MS w18 [blk none, M] := hms.pick [none, some 5] _ rfl
    have hsu : ∀ x ∈ fl [blk none, M], x ∈ fl [blk a0_14, blk a2_14, B2_11, [b4], [b2], M] := pick_sub [none, some 5] _ rfl
    have hfe : FR w.heap.size [blk none] := hfr.pick [none] _ rfl
    exact ⟨none, 0, rfl, hev, hmr, hfe, OwnS.nil _ _ _ _⟩
  replace h := ite_f hb h
  refine c_skip ?_
  refine k_then ?_
  refine c_seq (c_plain ?_)
  refine x_pure 1 [(31, .slice a2_14 (x13.2.1).length c2_14)] _ _ _ (by kernel_rfl) ?_
  refine x_build (vs := [(1, .slice a2_14 (x13.2.1).length c2_14)]) (.agg #[.int .i64 0, .slice a2_14 (x13.2.1).length c2_14]) rfl rfl rfl (fun _ _ => by kernel_rfl) ?_
  refine x_alloc (z := .agg #[.int .i64 0, .slice none 0 0]) rfl rfl (by kernel_rfl) (fun b19 w19 hq19 hb19 he19 hz19 => ?_)
  replace hb19 : w19.heap[b19]? = some (.cells #[.int .i64 0, .slice none 0 0] 30 (0, 0)) := hb19
  refine ⟨.inl rfl, ?_⟩
  have hst := Stp.box (ls := [blk a0_14, blk a2_14, B2_11, [b4], [b2], M]) he19 hq19
  replace hs_p0_0 := hs_p0_0.step hst
  replace hb2 := he19.box hb2 nn
  replace hb4 := he19.box hb4 nn
  replace hf11_1 := hf11_1.step (plain_int _) he19 nn2
  replace hf14_1 := hf14_1.step hst he19 nn2
  replace hf14_2 := hf14_2.step hst he19 nn2
  replace hms := hms.box he19 hq19 hb19
  replace hfr := hfr.box hev.size hq19
  replace hev := hev.ext he19
  obtain ⟨w21, hr21, hb21, he21⟩ := store_boxagg 0 [.int .i64 0, .slice a2_14 (x13.2.1).length c2_14] #[.int .i64 0, .slice a2_14 (x13.2.1).length c2_14] tagg30 hb19 rfl rfl rfl
  refine x_store w21 (xv := .pointer (some ⟨b19, 0, none⟩)) (yv := .agg #[.int .i64 0, .slice a2_14 (x13.2.1).length c2_14]) rfl rfl rfl rfl hr21 ?_
  refine ⟨.inl rfl, ?_⟩
  have hst := Stp.ev' (ls := [[b19], blk a0_14, blk a2_14, B2_11, [b4], [b2], M]) he21 (mem_flat 0 rfl)
  replace hs_p0_0 := hs_p0_0.step hst
  replace hb2 := he21.box hb2 (hms.apart 5 0 rfl rfl rfl _ (List.mem_singleton.2 rfl))
  replace hb4 := he21.box hb4 (hms.apart 4 0 rfl rfl rfl _ (List.mem_singleton.2 rfl))
  replace hf11_1 := hf11_1.step (plain_int _) he21 (hms.apart 3 0 rfl rfl rfl)
  replace hf14_1 := hf14_1.step hst he21 (hms.apart 1 0 rfl rfl rfl)
  replace hf14_2 := hf14_2.step hst he21 (hms.apart 2 0 rfl rfl rfl)
  replace hms := hms.ev he21
  replace hev := hev.then he21 (fun b hb => .inr (hfr.at 0 rfl b hb))
  replace hb19 := hb21
  refine x_end rfl (k_then ?_)
  refine c_seq ?_
  refine c_seq (c_plain ?_)
  refine x_pure 1 [(33, .slice a2_14 (x13.2.1).length c2_14)] _ _ _ (by kernel_rfl) ?_
  refine x_len (vs := [.slice a2_14 (x13.2.1).length c2_14]) (.int .i64 ((x13.2.1).length : Int)) rfl rfl rfl (reads_len tsl22 _ _ _ _ _) ?_
  refine x_pure 1 [(35, .int .i64 0)] _ _ _ (by kernel_rfl) ?_
  refine x_end rfl (k_then ?_)
  refine c_block ?_
  have hpk : MS w21 [[b4], blk a2_14, [b19], M] := hms.pick [some 4, some 2, some 0, some 6] _ rfl
  have hsu : ∀ x ∈ fl [[b4], blk a2_14, [b19], M], x ∈ fl [[b19], blk a0_14, blk a2_14, B2_11, [b4], [b2], M] := pick_sub [some 4, some 2, some 0, some 6] _ rfl
  replace hf14_2 := hf14_2.sub hsu
  replace hms := hpk
  replace hfr : FR w.heap.size [[b4], blk a2_14, [b19]] := hfr.pick [some 4, some 2, some 0] _ rfl
  clear hpk hsu
  obtain ⟨d22, hd22, h22⟩ := bind_some h
  obtain ⟨m22, hd22⟩ := loop_some hd22
  refine c_loop (loop_rule hmx (σ := Nat × Int × Int × Option Addr) (fun s => match s with | (_, e20_l22_0, t35__s35_l22, a16_l22) => [(2, .pointer (some ⟨b4, 0, none⟩)), (8, .pointer (some ⟨b19, 0, none⟩)), (33, .slice a16_l22 (x13.2.1).length c2_14), (34, .int .i64 ((x13.2.1).length : Int)), (35, .int .i64 t35__s35_l22)]) (fun s w' => match s with | (m, e20_l22_0, t35__s35_l22, a16_l22) => loopN (leastcode_Least_L22 x13) m (e20_l22_0, t35__s35_l22) = some d22 ∧ Ev [] w w' ∧ MS w' [[b4], blk a16_l22, [b19], M] ∧ FR w.heap.size [[b4], blk a16_l22, [b19]] ∧ w'.heap[b4]? = some (.cells #[.int .i64 0, .slice none 0 0] 30 (0, 0)) ∧ OwnS (eInt .i64) 3 w' (fl [[b4], blk a16_l22, [b19], M]) a16_l22 c2_14 x13.2.1 ∧ w'.heap[b19]? = some (.cells #[.int .i64 e20_l22_0, .slice a16_l22 (x13.2.1).length c2_14] 30 (0, 0))) (fun s => s.1) (m22, 0, 0, a2_14) ⟨rfl, rfl, rfl, rfl, rfl, trivial⟩ ⟨hd22, hev, hms, hfr, hb4, hf14_2, hb19⟩ ?_)
  rintro ⟨m22, e20_l22_0, t35__s35_l22, a16_l22⟩ J wl22 ⟨hn22, hev, hms, hfr, hb4, hf14_2, hb19⟩
  rcases m22 with _ | m22
  · exact (loopN_zero hn22).elim
  obtain ⟨t22, h, hn22⟩ := bind_some hn22
  refine c_seq (c_plain ?_)
  refine x_pure 1 [(36, .bool (decide (t35__s35_l22 < ((x13.2.1).length : Int))))] _ _ _ (by kernel_rfl) ?_
  refine x_end rfl (k_then ?_)
  refine c_norm [(2, .pointer (some ⟨b4, 0, none⟩)), (8, .pointer (some ⟨b19, 0, none⟩)), (33, .slice a16_l22 (x13.2.1).length c2_14), (34, .int .i64 ((x13.2.1).length : Int)), (35, .int .i64 t35__s35_l22), (36, .bool (decide (t35__s35_l22 < ((x13.2.1).length : Int))))] ⟨rfl, rfl, rfl, rfl, rfl, rfl, trivial⟩ (fun J => ?_)
  refine c_seq ?_
  refine c_cond (decide (t35__s35_l22 < ((x13.2.1).length : Int))) rfl (fun hb => ?_) (fun hb => ?_)
  · replace h := ite_t hb h
    refine c_skip ?_
    refine k_then ?_
    refine c_seq ?_
    refine c_block ?_
    refine c_seq (c_plain ?_)
    obtain ⟨x24, hx24, h⟩ := bind_some h
    obtain ⟨g24, cs24, ha, hr24, hc24, hR⟩ := own_index (Mo := []) tsl22 hf14_2 hx24
    subst ha
    obtain rfl := hR
    refine x_indexAddr (xv := .slice (some ⟨g24, 0, none⟩) (x13.2.1).length c2_14) (yv := .int .i64 t35__s35_l22) (.pointer (some ⟨g24, (Int.toNat t35__s35_l22) * (eInt .i64).n, none⟩)) rfl rfl rfl rfl hr24 ?_
    refine x_load (xv := .pointer (some ⟨g24, (Int.toNat t35__s35_l22) * (eInt .i64).n, none⟩)) (.int .i64 x24) rfl rfl rfl (reads_cell0 tcell3 hc24 (fun _ h => by cases h)) ?_
    refine x_pure 1 [(10, .int .i64 x24)] _ _ _ (by kernel_rfl) ?_
    refine x_end rfl (k_then ?_)
    refine c_seq (c_plain ?_)
    refine x_pure 1 [(40, .int .i64 x24)] _ _ _ (by kernel_rfl) ?_
    obtain ⟨x26, hx, h⟩ := bind_some h
    have hcall := code_Steps_w x24 _ wl22 hx
    refine x_call 44 #[] #[] [.int .i64 x24] _ rfl rfl rfl rfl hcall ?_
    rintro v w27 ⟨rfl, he27⟩
    clear hcall hx
    refine ⟨.inl rfl, ?_⟩
    have hst := Stp.ext (ls := [[b4], blk (some ⟨g24, 0, none⟩), [b19], M]) he27
    replace hb4 := he27.box hb4 nn
    replace hb19 := he27.box hb19 nn
    replace hf14_2 := hf14_2.step hst he27 nn2
    replace hms := hms.ev he27
    replace hev := hev.ext he27
    refine x_pure 5 [(39, .tuple #[.int .i64 x26.1, .int .i64 x26.2]), (42, .int .i64 x26.1), (43, .int .i64 x26.2), (11, .int .i64 x26.1), (12, .int .i64 x26.2)] _ _ _ (by kernel_rfl) ?_
    refine x_end rfl (k_then ?_)
    refine c_plain ?_
    refine x_fieldAddr (xv := .pointer (some ⟨b19, 0, none⟩)) (.pointer (some ⟨b19, 0, none⟩)) rfl rfl rfl (reads_field tfld30_0 _ _) ?_
    refine x_load (xv := .pointer (some ⟨b19, 0, none⟩)) (.int .i64 e20_l22_0) rfl rfl rfl (reads_box tcell3 hb19 nn 0 _ rfl) ?_
    refine x_pure 1 [(46, .int .i64 x26.1)] _ _ _ (by kernel_rfl) ?_
    refine x_max (vs := [.int .i64 e20_l22_0, .int .i64 x26.1]) (.int .i64 (if x26.1 > e20_l22_0 then x26.1 else e20_l22_0)) rfl rfl rfl (fun _ _ => rfl) ?_
    refine x_fieldAddr (xv := .pointer (some ⟨b19, 0, none⟩)) (.pointer (some ⟨b19, 0, none⟩)) rfl rfl rfl (reads_field tfld30_0 _ _) ?_
    obtain ⟨w28, hr28, hb28, he28⟩ := store_box 0 (.int .i64 (if x26.1 > e20_l22_0 then x26.1 else e20_l22_0)) #[.int .i64 (if x26.1 > e20_l22_0 then x26.1 else e20_l22_0), .slice (some ⟨g24, 0, none⟩) (x13.2.1).length c2_14] tcell3 hb19 rfl rfl rfl
    refine x_store w28 (xv := .pointer (some ⟨b19, 0, none⟩)) (yv := .int .i64 (if x26.1 > e20_l22_0 then x26.1 else e20_l22_0)) rfl rfl rfl rfl hr28 ?_
    refine ⟨.inl rfl, ?_⟩
    have hst := Stp.ev' (ls := [[b4], blk (some ⟨g24, 0, none⟩), [b19], M]) he28 (mem_flat 2 rfl)
    replace hb4 := he28.box hb4 (hms.apart 0 2 rfl rfl rfl _ (List.mem_singleton.2 rfl))
    replace hf14_2 := hf14_2.step hst he28 (hms.apart 1 2 rfl rfl rfl)
    replace hms := hms.ev he28
    replace hev := hev.then he28 (fun b hb => .inr (hfr.at 2 rfl b hb))
    replace hb19 := hb28
    refine x_end rfl ?_
    refine k_block ?_
    refine k_then ?_
    refine c_norm [(2, .pointer (some ⟨b4, 0, none⟩)), (8, .pointer (some ⟨b19, 0, none⟩)), (33, .slice (some ⟨g24, 0, none⟩) (x13.2.1).length c2_14), (34, .int .i64 ((x13.2.1).length : Int)), (35, .int .i64 t35__s35_l22)] ⟨rfl, rfl, rfl, rfl, rfl, trivial⟩ (fun J => ?_)
    refine c_plain ?_
    refine x_pure 2 [(49, .int .i64 (IntKind.i64.wrap (t35__s35_l22 + 1))), (35, .int .i64 (IntKind.i64.wrap (t35__s35_l22 + 1)))] _ _ _ (by kernel_rfl) ?_
    refine x_end rfl ?_
    have hx := some_inj h
    subst hx
    exact k_then ⟨(m22, if x26.1 > e20_l22_0 then x26.1 else e20_l22_0, IntKind.i64.wrap (t35__s35_l22 + 1), (some ⟨g24, 0, none⟩)), ⟨rfl, rfl, rfl, rfl, rfl, trivial⟩, ⟨hn22, hev, hms, hfr, hb4, hf14_2, hb19⟩, Nat.lt_succ_self _⟩
  replace h := ite_f hb h
  refine c_exit ?_
  refine k_then_exit ?_
  have hx := some_inj h
  subst hx
  have hy := some_inj hn22
  subst hy
  replace h := h22
  refine k_then_exit ?_
  refine k_block_in ?_
  refine k_then ?_
  refine c_norm [(2, .pointer (some ⟨b4, 0, none⟩)), (8, .pointer (some ⟨b19, 0, none⟩))] ⟨rfl, rfl, trivial⟩ (fun J => ?_)
  refine c_seq (c_plain ?_)
  refine x_load (xv := .pointer (some ⟨b19, 0, none⟩)) (.agg #[.int .i64 e20_l22_0, .slice a16_l22 (x13.2.1).length c2_14]) rfl rfl rfl (reads_boxagg 0 [.int .i64 e20_l22_0, .slice a16_l22 (x13.2.1).length c2_14] tagg30 hb19 nn rfl) ?_
  obtain ⟨w29, hr29, hb29, he29⟩ := store_boxagg 0 [.int .i64 e20_l22_0, .slice a16_l22 (x13.2.1).length c2_14] #[.int .i64 e20_l22_0, .slice a16_l22 (x13.2.1).length c2_14] tagg30 hb4 rfl rfl rfl
  refine x_store w29 (xv := .pointer (some ⟨b4, 0, none⟩)) (yv := .agg #[.int .i64 e20_l22_0, .slice a16_l22 (x13.2.1).length c2_14]) rfl rfl rfl rfl hr29 ?_
  refine ⟨.inl rfl, ?_⟩
  have hst := Stp.ev' (ls := [[b4], blk a16_l22, [b19], M]) he29 (mem_flat 0 rfl)
  replace hb19 := he29.box hb19 (hms.apart 2 0 rfl rfl rfl _ (List.mem_singleton.2 rfl))
  replace hf14_2 := hf14_2.step hst he29 (hms.apart 1 0 rfl rfl rfl)
  replace hms := hms.ev he29
  replace hev := hev.then he29 (fun b hb => .inr (hfr.at 0 rfl b hb))
  replace hb4 := hb29
  refine x_pure 1 [(3, .int .i64 0)] _ _ _ (by kernel_rfl) ?_
  refine x_end rfl (k_then ?_)
  refine c_ret ?_
  refine r_ret (r_vals [.agg #[.int .i64 e20_l22_0, .slice a16_l22 (x13.2.1).length c2_14], .int .i64 0] ⟨⟨_, rfl, loadVar_of_reads (reads_boxagg (Mo := []) 0 [.int .i64 e20_l22_0, .slice a16_l22 (x13.2.1).length c2_14] tagg30 hb4 nn rfl)⟩, rfl, trivial⟩ ?_)
  have hx := some_inj h
  subst hx
  have hmr : MS w29 [blk a16_l22, M] := hms.pick [some 1, some 3] _ rfl
  have hsu : ∀ x ∈ fl [blk a16_l22, M], x ∈ fl [[b4], blk a16_l22, [b19], M] := pick_sub [some 1, some 3] _ rfl
  have hfe : FR w.heap.size [blk a16_l22] := hfr.pick [some 1] _ rfl
  exact ⟨a16_l22, c2_14, rfl, hev, hmr, hfe, hf14_2.sub hsu⟩
end Go.Proofs.Ytmjobkpgnhbcbaa
