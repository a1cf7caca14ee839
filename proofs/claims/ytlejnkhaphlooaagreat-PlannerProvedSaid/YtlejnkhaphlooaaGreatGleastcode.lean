
/- Walks, printed by program: each function returns what the partial function of the same name returns. Conditions: those of each theorem. -/
import Derived.Test.YtlejnkhaphlooaaGreatGT
import Derived.Test.YtlejnkhaphlooaaGreatGcode
import Derived.Test.YtlejnkhaphlooaaGreatGjob
import Derived.Test.YtlejnkhaphlooaaGreatGslices
set_option linter.unusedVariables false
set_option linter.unusedSimpArgs false
set_option maxRecDepth 4000
namespace Go.Proofs.YtlejnkhaphlooaaGreat
open Go Go.V Go.Proofs
def leastcode_relations_J24 (t14__s14_l6 : Int) (d5_l17 : List (List Int)) (t29__s29_l17 : Int) (t48__s48_j24 : Bool) : Option (Step ((List (List Int)) × Int) (List (List Int))) :=
(if t48__s48_j24 = true then
some (.next (d5_l17, IntKind.i64.wrap (t29__s29_l17 + 1)))
else
(if (decide (t29__s29_l17 < t14__s14_l6)) = true then
((idx d5_l17 t14__s14_l6).bind fun x25 =>
((idx x25 t29__s29_l17).bind fun x27 =>
some (.next ((d5_l17.set (Int.toNat t14__s14_l6) (x25.set (Int.toNat t29__s29_l17) 2)), IntKind.i64.wrap (t29__s29_l17 + 1)))))
else
((idx d5_l17 t14__s14_l6).bind fun x30 =>
((idx x30 t29__s29_l17).bind fun x32 =>
some (.next ((d5_l17.set (Int.toNat t14__s14_l6) (x30.set (Int.toNat t29__s29_l17) 1)), IntKind.i64.wrap (t29__s29_l17 + 1)))))))
def leastcode_relations_J19 (t14__s14_l6 : Int) (d5_l17 : List (List Int)) (t29__s29_l17 : Int) (e25_j19_0 : Int) (e25_j19_1 : Int) (e25_j19_2 : Int) (e25_j19_3 : Int) (e27_j19_0 : Int) (e27_j19_1 : Int) (e27_j19_2 : Int) (e27_j19_3 : Int) : Option (Step ((List (List Int)) × Int) (List (List Int))) :=
(if (e25_j19_0 != e27_j19_0) = true then
leastcode_relations_J24 t14__s14_l6 d5_l17 t29__s29_l17 true
else
leastcode_relations_J24 t14__s14_l6 d5_l17 t29__s29_l17 (decide (e25_j19_1 ≥ e27_j19_1)))
def leastcode_relations_L17 (p0_0 : List (Int × Int × Int × Int)) (t14__s14_l6 : Int) (x15 : List Int) (s : (List (List Int)) × Int) : Option (Step ((List (List Int)) × Int) (List (List Int))) :=
match s with
| (d5_l17, t29__s29_l17) =>
(if (decide (t29__s29_l17 < ((x15).length : Int))) = true then
((idx p0_0 t14__s14_l6).bind fun x20 =>
((idx p0_0 t29__s29_l17).bind fun x22 =>
leastcode_relations_J19 t14__s14_l6 d5_l17 t29__s29_l17 x20.1 x20.2.1 x20.2.2.1 x20.2.2.2 x22.1 x22.2.1 x22.2.2.1 x22.2.2.2))
else
some (.done d5_l17))
def leastcode_relations_L6 (p0_0 : List (Int × Int × Int × Int)) (s : (List (List Int)) × Int) : Option (Step ((List (List Int)) × Int) (List (List Int))) :=
match s with
| (d5_l6, t14__s14_l6) =>
(if (decide (t14__s14_l6 < (((List.replicate (Int.toNat ((p0_0).length : Int)) ([] : List Int))).length : Int))) = true then
(if (0 : Int) ≤ ((p0_0).length : Int) ∧ (((p0_0).length : Int) : Int) ≤ 4294967296 then
((idx d5_l6 t14__s14_l6).bind fun x10 =>
((idx (d5_l6.set (Int.toNat t14__s14_l6) (List.replicate (Int.toNat ((p0_0).length : Int)) 0 : List Int)) t14__s14_l6).bind fun x15 =>
((loop (leastcode_relations_L17 p0_0 t14__s14_l6 x15) ((d5_l6.set (Int.toNat t14__s14_l6) (List.replicate (Int.toNat ((p0_0).length : Int)) 0 : List Int)), 0)).bind fun d => match d with
| d5_x17 => some (.next (d5_x17, IntKind.i64.wrap (t14__s14_l6 + 1))))))
else none)
else
some (.done d5_l6))
def leastcode_relations (p0_0 : List (Int × Int × Int × Int)) (p0_1 : Int) : Option (List (List Int)) :=
(if (0 : Int) ≤ ((p0_0).length : Int) ∧ (((p0_0).length : Int) : Int) ≤ 4294967296 then
((loop (leastcode_relations_L6 p0_0) ((List.replicate (Int.toNat ((p0_0).length : Int)) ([] : List Int)), 0)).bind fun d => match d with
| d5_x6 => some d5_x6)
else none)
theorem leastcode_relations_w (a_p0_0 : Option Addr) (c_p0_0 : Nat) (p0_0 : List (Int × Int × Int × Int)) (p0_1 : Int) (r : (List (List Int))) (w : World) (M : List Nat) (hms : MS w [M]) (hs_p0_0 : SlR (eIt4) w (fl [M]) a_p0_0 c_p0_0 p0_0) (h : leastcode_relations p0_0 p0_1 = some r) : CallVC Tryz.prog 80 [.agg #[.slice a_p0_0 (p0_0).length c_p0_0, Vi p0_1]] w fun v w' => ∃ (a0' : Option Addr), ∃ (c0' : Nat), ∃ (B2' : List Nat), v = .slice a0' (r).length c0' ∧ Ev [] w w' ∧ MS w' [B2', M] ∧ FR w.heap.size [B2'] ∧ OwnR (eInt .i64) 3 22 w' B2' a0' c0' r none := by
 refine calls_vc hmx Tryz.func80 (by kernel_rfl) rfl (rs := [.tmp 2]) rfl (by kernel_rfl) (args := [.agg #[.slice a_p0_0 (p0_0).length c_p0_0, Vi p0_1]]) rfl ?_
 have hev : Ev [] w w := Ev.refl _ _
 have hfr : FR w.heap.size [] := FR.nil _
 refine c_sp (x_box (xv := .agg #[.slice a_p0_0 (p0_0).length c_p0_0, Vi p0_1]) rfl rfl rfl (fun b2 w2 hq2 hb2 he2 hz2 => ?_))
 replace hb2 : w2.heap[b2]? = some (.cells #[.slice a_p0_0 (p0_0).length c_p0_0, Vi p0_1] 50 (0, 0)) := hb2
 refine inl1 ?_
 have hst := Stp.box (ls := [M]) he2 hq2
 replace hs_p0_0 := hs_p0_0.step hst
 replace hms := hms.box he2 hq2 hb2
 replace hfr := hfr.box hev.size hq2
 replace hev := hev.ext he2
 refine x_u 1 [(2, .slice none 0 0)] (x_ek (c_sp (x_fieldAddr (xv := Vp b2 0) (Vp b2 0) rfl rfl rfl (reads_field tfld50_0 _ _) (x_load (xv := Vp b2 0) (.slice a_p0_0 (p0_0).length c_p0_0) rfl rfl rfl (reads_box tcell36 hb2 nn 0 _ rfl) (x_len (vs := [.slice a_p0_0 (p0_0).length c_p0_0]) (Vi ((p0_0).length : Int)) rfl rfl rfl (reads_len tsl36 _ _ _ _ _) ?_)))))
 have hg := guard_l h
 replace h := guard_r h
 obtain ⟨a4, c4, w4, B4, hr4, he4, hn4, ho4⟩ := OwnR.mk (P := Tryz.prog) (T := 3) (eInt .i64) tel57 w2 ((p0_0).length : Int) hg.1 hg.2
 refine x_makeSlice _ w4 (xv := Vi ((p0_0).length : Int)) (yv := Vi ((p0_0).length : Int)) rfl rfl rfl rfl hr4 (inl1 ?_)
 have hst := Stp.push (ls := [[b2], M]) (l := B4) he4 (fun _ h => by cases h) (fun b hb => (hn4 b hb).1)
 replace hs_p0_0 := hs_p0_0.step hst
 replace hb2 := he4.box hb2 nn
 replace hms := hms.push he4 hn4
 replace hfr := hfr.push (fun b hb => Nat.le_trans hev.size (hn4 b hb).1)
 replace hev := hev.ext he4
 refine x_u 1 [(3, .slice a4 ((List.replicate (Int.toNat ((p0_0).length : Int)) ([] : List Int))).length c4)] (x_ek (c_seq (c_sp (x_u 1 [(12, .slice a4 ((List.replicate (Int.toNat ((p0_0).length : Int)) ([] : List Int))).length c4)] (x_len (vs := [.slice a4 ((List.replicate (Int.toNat ((p0_0).length : Int)) ([] : List Int))).length c4]) (Vi (((List.replicate (Int.toNat ((p0_0).length : Int)) ([] : List Int))).length : Int)) rfl rfl rfl (reads_len tsl57 _ _ _ _ _) ?_)))))
 refine x_u 1 [(14, Vi 0)] (x_ek (c_block ?_))
 have hpk := hms.pick [some 1, some 0, some 2] [[b2], B4, M] rfl
 have hsu := pick_sub (ls := [B4, [b2], M]) [some 1, some 0, some 2] [[b2], B4, M] rfl
 replace hs_p0_0 := hs_p0_0.sub hsu
 replace hms := hpk
 replace hfr := hfr.pick [some 1, some 0] [[b2], B4] rfl
 clear hpk hsu
 obtain ⟨d6, hd6, h6⟩ := bind_some h
 obtain ⟨m6, hd6⟩ := loop_some hd6
 refine c_loop (loop_rule hmx (σ := Nat × (List (List Int)) × Int × List Nat) (fun s => match s with | (_, d5_l6, t14__s14_l6, B5_l6) => [(1, Vp b2 0), (3, .slice a4 (d5_l6).length c4), (13, Vi (((List.replicate (Int.toNat ((p0_0).length : Int)) ([] : List Int))).length : Int)), (14, Vi t14__s14_l6)]) (fun s w' => match s with | (m, d5_l6, t14__s14_l6, B5_l6) => loopN (leastcode_relations_L6 p0_0) m (d5_l6, t14__s14_l6) = some d6 ∧ Ev [] w w' ∧ MS w' [[b2], B5_l6, M] ∧ FR w.heap.size [[b2], B5_l6] ∧ SlR (eIt4) w' (fl [[b2], B5_l6, M]) a_p0_0 c_p0_0 p0_0 ∧ w'.heap[b2]? = some (.cells #[.slice a_p0_0 (p0_0).length c_p0_0, Vi p0_1] 50 (0, 0)) ∧ OwnR (eInt .i64) 3 22 w' B5_l6 a4 c4 d5_l6 none) (fun s => s.1) (m6, (List.replicate (Int.toNat ((p0_0).length : Int)) ([] : List Int)), 0, B4) ⟨rfl, rfl, rfl, rfl, trivial⟩ ⟨hd6, hev, hms, hfr, hs_p0_0, hb2, ho4⟩ ?_)
 rintro ⟨m6, d5_l6, t14__s14_l6, B5_l6⟩ J wl6 ⟨hn6, hev, hms, hfr, hs_p0_0, hb2, ho4⟩
 rcases m6 with _ | m6
 · exact (loopN_zero hn6).elim
 obtain ⟨t6, h, hn6⟩ := bind_some hn6
 refine c_sp (x_u 1 [(15, .bool (decide (t14__s14_l6 < (((List.replicate (Int.toNat ((p0_0).length : Int)) ([] : List Int))).length : Int))))] (x_ek (c_nm [(1, Vp b2 0), (3, .slice a4 (d5_l6).length c4), (13, Vi (((List.replicate (Int.toNat ((p0_0).length : Int)) ([] : List Int))).length : Int)), (14, Vi t14__s14_l6), (15, .bool (decide (t14__s14_l6 < (((List.replicate (Int.toNat ((p0_0).length : Int)) ([] : List Int))).length : Int))))] (fun J => ?_))))
 refine c_seq (c_if (decide (t14__s14_l6 < (((List.replicate (Int.toNat ((p0_0).length : Int)) ([] : List Int))).length : Int))) rfl h (fun h => ?_) (fun h => ?_))
 · refine c_skip (k_then (c_seq (c_block (c_sp (x_u 2 [(16, Vi t14__s14_l6), (4, Vi t14__s14_l6)] ?_)))))
   refine x_ek (c_sp (x_u 2 [(17, .slice a4 (d5_l6).length c4), (18, Vi t14__s14_l6)] (x_fieldAddr (xv := Vp b2 0) (Vp b2 0) rfl rfl rfl (reads_field tfld50_0 _ _) (x_load (xv := Vp b2 0) (.slice a_p0_0 (p0_0).length c_p0_0) rfl rfl rfl (reads_box tcell36 hb2 nn 0 _ rfl) (x_len (vs := [.slice a_p0_0 (p0_0).length c_p0_0]) (Vi ((p0_0).length : Int)) rfl rfl rfl (reads_len tsl36 _ _ _ _ _) ?_)))))
   have hg := guard_l h
   replace h := guard_r h
   obtain ⟨a8, c8, w8, hr8, he8, hn8, hw8⟩ := own_make (e := (eInt .i64)) tel22 wl6 ((p0_0).length : Int) hg.1 hg.2 0 (fun _ _ => rfl)
   refine x_makeSlice _ w8 (xv := Vi ((p0_0).length : Int)) (yv := Vi ((p0_0).length : Int)) rfl rfl rfl rfl hr8 (inl1 ?_)
   have hst := Stp.push (ls := [[b2], B5_l6, M]) (l := blk a8) he8 (fun _ h => by cases h) (fun b hb => (hn8 b hb).1)
   replace hb2 := he8.box hb2 nn
   replace hs_p0_0 := hs_p0_0.step hst
   replace ho4 := ho4.step (plain_int _) he8 nn2
   replace hms := hms.push he8 hn8
   replace hfr := hfr.push (fun b hb => Nat.le_trans hev.size (hn8 b hb).1)
   replace hev := hev.ext he8
   have ho8 := hw8 (fl [blk a8, [b2], B5_l6, M])
   clear hw8
   obtain ⟨x10, hx10, h⟩ := bind_some h
   obtain ⟨g10, ai10, ci10, hr10, hv10⟩ := OwnR.view (P := Tryz.prog) (Mo := []) tsl57 ho4 hx10
   refine x_indexAddr (xv := .slice a4 (d5_l6).length c4) (yv := Vi t14__s14_l6) (.pointer (some ⟨g10, (Int.toNat t14__s14_l6), none⟩)) rfl rfl rfl rfl hr10 ?_
   obtain ⟨B12, hR12, ho12, hs1, hs2, hs3⟩ := OwnR.opn ho4 hv10
   replace ho4 := hR12
   have hms2 := hms.split 2 rfl hs2 hs1 hs3
   have hsu : ∀ x ∈ fl [blk ai10, blk a8, [b2], B12, M], x ∈ fl [blk a8, [b2], B5_l6, M] := split_sub (ls := [blk a8, [b2], B5_l6, M]) 2 rfl hs2 hs1
   replace hms : MS w8 [blk ai10, blk a8, [b2], B12, M] := hms2
   replace hfr : FR w.heap.size [blk ai10, blk a8, [b2], B12] := (hfr.upd 2 rfl hev.size (fun b hb => .inl (hs1 b hb))).push (fun b hb => hfr.at 2 rfl b (hs2 b hb))
   replace hs_p0_0 := hs_p0_0.sub hsu
   replace ho8 := ho8.sub hsu
   have hg12 := hv10.eq
   have hx12 := hv10.at_
   clear hv10 hms2 hs1 hs2 hs3 hsu
   obtain ⟨w14, B14, hr14, he14, hn14, hR14⟩ := OwnR.cls (P := Tryz.prog) (plain_int _) tcell22 ho4 hg12 hx12 ho8 (hms.apart 1 3 rfl rfl rfl) (hms.ltat 3 rfl)
   refine x_store w14 (xv := .pointer (some ⟨g10, (Int.toNat t14__s14_l6), none⟩)) (yv := .slice a8 ((List.replicate (Int.toNat ((p0_0).length : Int)) 0 : List Int)).length c8) rfl rfl rfl rfl hr14 (inl1 ?_)
   have hms2 := hms.merge (C := blk a8 ++ B12) 1 3 rfl rfl (fun x hx => List.mem_append.1 hx)
   replace hfr : FR w.heap.size [blk ai10, [b2], blk a8 ++ B12] := (FR.cons (hfr.at 0 rfl) (FR.cons (hfr.at 2 rfl) (FR.cons (fun b hb => (List.mem_append.1 hb).elim (hfr.at 1 rfl b) (hfr.at 3 rfl b)) (FR.nil _))))
   have hsu : ∀ x ∈ fl [blk ai10, [b2], blk a8 ++ B12, M], x ∈ fl [blk ai10, blk a8, [b2], B12, M] := merge_sub (ls := [blk ai10, blk a8, [b2], B12, M]) (C := blk a8 ++ B12) 1 3 rfl rfl (fun x hx => List.mem_append.1 hx)
   replace hms : MS w8 [blk ai10, [b2], blk a8 ++ B12, M] := hms2
   replace hs_p0_0 := hs_p0_0.sub hsu
   clear hms2 hsu
   have hst : Stp (fl [blk ai10, [b2], blk a8 ++ B12, M]) w8 (fl [blk ai10, [b2], B14, M]) w14 := Stp.upd 2 he14 rfl (fun b hb => (hn14 b hb).1)
   replace hb2 := he14.box hb2 (hms.apart 1 2 rfl rfl rfl _ mem1)
   replace hs_p0_0 := hs_p0_0.step hst
   replace hms : MS w14 [blk ai10, [b2], B14, M] := hms.upd 2 he14 rfl hn14
   have hfr2 : FR w.heap.size [blk ai10, [b2], B14] := hfr.upd 2 rfl hev.size (fun b hb => (hn14 b hb).1)
   replace hev := hev.then he14 (fun b hb => .inr (hfr.at 2 rfl b hb))
   replace hfr := hfr2
   clear hfr2
   replace ho4 := hR14
   have hsl : (Value.slice a4 (d5_l6).length c4) = (Value.slice a4 ((d5_l6.set (Int.toNat t14__s14_l6) (List.replicate (Int.toNat ((p0_0).length : Int)) 0 : List Int))).length c4) := by first | (rw [List.length_set]; done) | simp only [List.length_set]
   try rw [hsl]
   clear hsl
   refine x_ek (c_sp (x_u 2 [(24, .slice a4 ((d5_l6.set (Int.toNat t14__s14_l6) (List.replicate (Int.toNat ((p0_0).length : Int)) 0 : List Int))).length c4), (25, Vi t14__s14_l6)] ?_))
   obtain ⟨x15, hx15, h⟩ := bind_some h
   obtain ⟨g15, ai15, ci15, hr15, hv15⟩ := OwnR.view (P := Tryz.prog) (Mo := []) tsl57 ho4 hx15
   refine x_indexAddr (xv := .slice a4 ((d5_l6.set (Int.toNat t14__s14_l6) (List.replicate (Int.toNat ((p0_0).length : Int)) 0 : List Int))).length c4) (yv := Vi t14__s14_l6) (.pointer (some ⟨g15, (Int.toNat t14__s14_l6), none⟩)) rfl rfl rfl rfl hr15 (x_load (xv := .pointer (some ⟨g15, (Int.toNat t14__s14_l6), none⟩)) (.slice ai15 (x15).length ci15) rfl rfl rfl (RView.load tcell22 hv15) (x_len (vs := [.slice ai15 (x15).length ci15]) (Vi ((x15).length : Int)) rfl rfl rfl (reads_len tsl22 _ _ _ _ _) (x_u 1 [(29, Vi 0)] (x_ek (c_nm [(1, Vp b2 0), (3, .slice a4 ((d5_l6.set (Int.toNat t14__s14_l6) (List.replicate (Int.toNat ((p0_0).length : Int)) 0 : List Int))).length c4), (4, Vi t14__s14_l6), (13, Vi (((List.replicate (Int.toNat ((p0_0).length : Int)) ([] : List Int))).length : Int)), (14, Vi t14__s14_l6), (28, Vi ((x15).length : Int)), (29, Vi 0)] (fun J => ?_))))))
   refine c_block ?_
   have hpk := hms.pick [some 1, some 2, some 3] [[b2], B14, M] rfl
   have hsu := pick_sub (ls := [blk ai10, [b2], B14, M]) [some 1, some 2, some 3] [[b2], B14, M] rfl
   replace hs_p0_0 := hs_p0_0.sub hsu
   replace hms := hpk
   replace hfr := hfr.pick [some 1, some 2] [[b2], B14] rfl
   clear hpk hsu
   obtain ⟨d17, hd17, h17⟩ := bind_some h
   obtain ⟨m17, hd17⟩ := loop_some hd17
   refine c_loop (loop_rule hmx (σ := Nat × (List (List Int)) × Int) (fun s => match s with | (_, d5_l17, t29__s29_l17) => [(1, Vp b2 0), (3, .slice a4 (d5_l17).length c4), (4, Vi t14__s14_l6), (13, Vi (((List.replicate (Int.toNat ((p0_0).length : Int)) ([] : List Int))).length : Int)), (14, Vi t14__s14_l6), (28, Vi ((x15).length : Int)), (29, Vi t29__s29_l17)]) (fun s w' => match s with | (m, d5_l17, t29__s29_l17) => loopN (leastcode_relations_L17 p0_0 t14__s14_l6 x15) m (d5_l17, t29__s29_l17) = some d17 ∧ Ev [] w w' ∧ MS w' [[b2], B14, M] ∧ FR w.heap.size [[b2], B14] ∧ SlR (eIt4) w' (fl [[b2], B14, M]) a_p0_0 c_p0_0 p0_0 ∧ w'.heap[b2]? = some (.cells #[.slice a_p0_0 (p0_0).length c_p0_0, Vi p0_1] 50 (0, 0)) ∧ OwnR (eInt .i64) 3 22 w' B14 a4 c4 d5_l17 none) (fun s => s.1) (m17, (d5_l6.set (Int.toNat t14__s14_l6) (List.replicate (Int.toNat ((p0_0).length : Int)) 0 : List Int)), 0) ⟨rfl, rfl, rfl, rfl, rfl, rfl, rfl, trivial⟩ ⟨hd17, hev, hms, hfr, hs_p0_0, hb2, ho4⟩ ?_)
   rintro ⟨m17, d5_l17, t29__s29_l17⟩ J wl17 ⟨hn17, hev, hms, hfr, hs_p0_0, hb2, ho4⟩
   rcases m17 with _ | m17
   · exact (loopN_zero hn17).elim
   obtain ⟨t17, h, hn17⟩ := bind_some hn17
   refine c_sp (x_u 1 [(30, .bool (decide (t29__s29_l17 < ((x15).length : Int))))] (x_ek (c_nm [(1, Vp b2 0), (3, .slice a4 (d5_l17).length c4), (4, Vi t14__s14_l6), (13, Vi (((List.replicate (Int.toNat ((p0_0).length : Int)) ([] : List Int))).length : Int)), (14, Vi t14__s14_l6), (28, Vi ((x15).length : Int)), (29, Vi t29__s29_l17), (30, .bool (decide (t29__s29_l17 < ((x15).length : Int))))] (fun J => ?_))))
   refine c_seq (c_if (decide (t29__s29_l17 < ((x15).length : Int))) rfl h (fun h => ?_) (fun h => ?_))
   · refine c_skip (k_then (c_seq (c_block (c_sp (x_u 2 [(31, Vi t29__s29_l17), (5, Vi t29__s29_l17)] ?_)))))
     refine x_ek (c_join (σ := Int × Int × Int × Int × Int × Int × Int × Int × Nat × Nat) (fun s => match s with | (e25_j19_0, e25_j19_1, e25_j19_2, e25_j19_3, e27_j19_0, e27_j19_1, e27_j19_2, e27_j19_3, b25_j19, b27_j19) => [(1, Vp b2 0), (3, .slice a4 (d5_l17).length c4), (4, Vi t14__s14_l6), (5, Vi t29__s29_l17), (6, Vp b25_j19 0), (7, Vp b27_j19 0), (13, Vi (((List.replicate (Int.toNat ((p0_0).length : Int)) ([] : List Int))).length : Int)), (14, Vi t14__s14_l6), (28, Vi ((x15).length : Int)), (29, Vi t29__s29_l17)]) (fun s w' => match s with | (e25_j19_0, e25_j19_1, e25_j19_2, e25_j19_3, e27_j19_0, e27_j19_1, e27_j19_2, e27_j19_3, b25_j19, b27_j19) => leastcode_relations_J19 t14__s14_l6 d5_l17 t29__s29_l17 e25_j19_0 e25_j19_1 e25_j19_2 e25_j19_3 e27_j19_0 e27_j19_1 e27_j19_2 e27_j19_3 = some t17 ∧ Ev [] w w' ∧ MS w' [[b2], B14, [b25_j19], [b27_j19], M] ∧ FR w.heap.size [[b2], B14, [b25_j19], [b27_j19]] ∧ SlR (eIt4) w' (fl [[b2], B14, [b25_j19], [b27_j19], M]) a_p0_0 c_p0_0 p0_0 ∧ w'.heap[b2]? = some (.cells #[.slice a_p0_0 (p0_0).length c_p0_0, Vi p0_1] 50 (0, 0)) ∧ OwnR (eInt .i64) 3 22 w' B14 a4 c4 d5_l17 none ∧ w'.heap[b25_j19]? = some (.cells #[Vi e25_j19_0, Vi e25_j19_1, Vi e25_j19_2, Vi e25_j19_3] 76 (0, 0)) ∧ w'.heap[b27_j19]? = some (.cells #[Vi e27_j19_0, Vi e27_j19_1, Vi e27_j19_2, Vi e27_j19_3] 76 (0, 0))) ?_ ?_)
     · refine c_drawnp (newmo (wl17).drew) [(0, false), (1, false), (2, false), (3, false), (4, false), (5, false), (6, false), (7, false), (8, false), (9, false)] (.alt 10 false (opsThen [(11, false), (12, false), (13, true)] .stop) (.alt 11 false (opsThen [(10, false), (12, false), (13, true)] .stop) .none_)) _ (by kernel_rfl) rfl ?_
       have hst := Stp.ext (ls := [[b2], B14, M]) (Ev.drew wl17)
       replace hb2 := (Ev.drew wl17).box hb2 nn
       replace hs_p0_0 := hs_p0_0.step hst
       replace ho4 := ho4.step (plain_int _) (Ev.drew wl17) nn2
       replace hms := hms.ev (Ev.drew wl17)
       replace hev := hev.ext (Ev.drew wl17)
       have hnz : ((wl17).drew).heap.size = ((wl17).drew).heap.size + 0 := rfl
       refine x_fieldAddr (xv := Vp b2 0) (Vp b2 0) rfl rfl rfl (reads_field tfld50_0 _ _) (x_load (xv := Vp b2 0) (.slice a_p0_0 (p0_0).length c_p0_0) rfl rfl rfl (reads_box tcell36 hb2 ((newmo_out (hms.ltat 0 rfl)) _ mem1) 0 _ rfl) (x_u 1 [(34, Vi t14__s14_l6)] ?_))
       obtain ⟨x20, hx20, h⟩ := bind_some h
       obtain ⟨ad20, cs20, hr20, hc20, hR⟩ := reads_index (Mo := (newmo (wl17).drew)) tsl36 hs_p0_0 hx20
       obtain ⟨_, _, rfl, rfl, ⟨_, _, rfl, rfl, ⟨_, _, rfl, rfl, rfl⟩⟩⟩ := hR
       refine x_indexAddr (xv := .slice a_p0_0 (p0_0).length c_p0_0) (yv := Vi t14__s14_l6) (.pointer (some ad20)) rfl rfl rfl rfl hr20 (x_load (xv := .pointer (some ad20)) (.agg #[Vi x20.1, Vi x20.2.1, Vi x20.2.2.1, Vi x20.2.2.2]) rfl rfl rfl (reads_agg tagg76 (CellsAt.newer hc20) (fun b hb => hb)) (x_fieldAddr (xv := Vp b2 0) (Vp b2 0) rfl rfl rfl (reads_field tfld50_0 _ _) (x_load (xv := Vp b2 0) (.slice a_p0_0 (p0_0).length c_p0_0) rfl rfl rfl (reads_box tcell36 hb2 ((newmo_out (hms.ltat 0 rfl)) _ mem1) 0 _ rfl) (x_u 1 [(39, Vi t29__s29_l17)] ?_))))
       obtain ⟨x22, hx22, h⟩ := bind_some h
       obtain ⟨ad22, cs22, hr22, hc22, hR⟩ := reads_index (Mo := (newmo (wl17).drew)) tsl36 hs_p0_0 hx22
       obtain ⟨_, _, rfl, rfl, ⟨_, _, rfl, rfl, ⟨_, _, rfl, rfl, rfl⟩⟩⟩ := hR
       refine x_indexAddr (xv := .slice a_p0_0 (p0_0).length c_p0_0) (yv := Vi t29__s29_l17) (.pointer (some ad22)) rfl rfl rfl rfl hr22 (x_load (xv := .pointer (some ad22)) (.agg #[Vi x22.1, Vi x22.2.1, Vi x22.2.2.1, Vi x22.2.2.2]) rfl rfl rfl (reads_agg tagg76 (CellsAt.newer hc22) (fun b hb => hb)) (x_end rfl (t_alt _ rfl ?_ ?_)))
       · refine x_alloc (z := .agg #[Vi 0, Vi 0, Vi 0, Vi 0]) rfl rfl (by kernel_rfl) (fun b24 w24 hq24 hb24 he24 hz24 => ?_)
         replace hb24 : w24.heap[b24]? = some (.cells #[Vi 0, Vi 0, Vi 0, Vi 0] 76 (0, 0)) := hb24
         refine ⟨.inr (he24.nil), ?_⟩
         have hnb24 : b24 = ((wl17).drew).heap.size + 0 := by omega
         replace hnz : w24.heap.size = ((wl17).drew).heap.size + 1 := by omega
         have hst := Stp.box (ls := [[b2], B14, M]) he24 hq24
         replace hb2 := he24.box hb2 nn
         replace hs_p0_0 := hs_p0_0.step hst
         replace ho4 := ho4.step (plain_int _) he24 nn2
         replace hms := hms.box he24 hq24 hb24
         replace hfr := hfr.box hev.size hq24
         replace hev := hev.ext he24
         refine x_alloc (z := .agg #[Vi 0, Vi 0, Vi 0, Vi 0]) rfl rfl (by kernel_rfl) (fun b26 w26 hq26 hb26 he26 hz26 => ?_)
         replace hb26 : w26.heap[b26]? = some (.cells #[Vi 0, Vi 0, Vi 0, Vi 0] 76 (0, 0)) := hb26
         refine ⟨.inr (he26.nil), ?_⟩
         have hnb26 : b26 = ((wl17).drew).heap.size + 1 := by omega
         replace hnz : w26.heap.size = ((wl17).drew).heap.size + 2 := by omega
         have hst := Stp.box (ls := [[b24], [b2], B14, M]) he26 hq26
         replace hb2 := he26.box hb2 nn
         replace hs_p0_0 := hs_p0_0.step hst
         replace ho4 := ho4.step (plain_int _) he26 nn2
         replace hb24 := he26.box hb24 nn
         replace hms := hms.box he26 hq26 hb26
         replace hfr := hfr.box hev.size hq26
         replace hev := hev.ext he26
         obtain ⟨w28, hr28, hb28, he28⟩ := store_boxagg 0 [Vi x20.1, Vi x20.2.1, Vi x20.2.2.1, Vi x20.2.2.2] #[Vi x20.1, Vi x20.2.1, Vi x20.2.2.1, Vi x20.2.2.2] tagg76 hb24 rfl rfl rfl
         refine x_store w28 (xv := Vp b24 0) (yv := .agg #[Vi x20.1, Vi x20.2.1, Vi x20.2.2.1, Vi x20.2.2.2]) rfl rfl rfl rfl hr28 (⟨.inr (he28.sub (fun x hx => by simp only [List.mem_singleton] at hx; subst hx; exact newmo_mem hnb24 rfl)), ?_⟩)
         have hst := Stp.ev' (ls := [[b26], [b24], [b2], B14, M]) he28 (mem_flat 1 rfl)
         replace hb2 := he28.box hb2 (hms.apart 2 1 rfl rfl rfl _ mem1)
         replace hs_p0_0 := hs_p0_0.step hst
         replace ho4 := ho4.step (plain_int _) he28 (hms.apart 3 1 rfl rfl rfl)
         replace hb26 := he28.box hb26 (hms.apart 0 1 rfl rfl rfl _ mem1)
         replace hms := hms.ev he28
         replace hev := hev.then he28 (fun b hb => .inr (hfr.at 1 rfl b hb))
         replace hb24 := hb28
         obtain ⟨w29, hr29, hb29, he29⟩ := store_boxagg 0 [Vi x22.1, Vi x22.2.1, Vi x22.2.2.1, Vi x22.2.2.2] #[Vi x22.1, Vi x22.2.1, Vi x22.2.2.1, Vi x22.2.2.2] tagg76 hb26 rfl rfl rfl
         refine x_store w29 (xv := Vp b26 0) (yv := .agg #[Vi x22.1, Vi x22.2.1, Vi x22.2.2.1, Vi x22.2.2.2]) rfl rfl rfl rfl hr29 (inl1 ?_)
         have hst := Stp.ev' (ls := [[b26], [b24], [b2], B14, M]) he29 (mem_flat 0 rfl)
         replace hb2 := he29.box hb2 (hms.apart 2 0 rfl rfl rfl _ mem1)
         replace hs_p0_0 := hs_p0_0.step hst
         replace ho4 := ho4.step (plain_int _) he29 (hms.apart 3 0 rfl rfl rfl)
         replace hb24 := he29.box hb24 (hms.apart 1 0 rfl rfl rfl _ mem1)
         replace hms := hms.ev he29
         replace hev := hev.then he29 (fun b hb => .inr (hfr.at 0 rfl b hb))
         replace hb26 := hb29
         refine x_end rfl (t_stop ?_)
         have hpk := hms.pick [some 2, some 3, some 1, some 0, some 4] [[b2], B14, [b24], [b26], M] rfl
         have hsu := pick_sub (ls := [[b26], [b24], [b2], B14, M]) [some 2, some 3, some 1, some 0, some 4] [[b2], B14, [b24], [b26], M] rfl
         replace hs_p0_0 := hs_p0_0.sub hsu
         replace hms := hpk
         replace hfr := hfr.pick [some 2, some 3, some 1, some 0] [[b2], B14, [b24], [b26]] rfl
         clear hpk hsu
         exact k_then ⟨(x20.1, x20.2.1, x20.2.2.1, x20.2.2.2, x22.1, x22.2.1, x22.2.2.1, x22.2.2.2, b24, b26), ⟨rfl, rfl, rfl, rfl, rfl, rfl, rfl, rfl, rfl, rfl, trivial⟩, h, hev, hms, hfr, hs_p0_0, hb2, ho4, hb24, hb26⟩
       refine t_alt _ rfl ?_ ?_
       · refine x_alloc (z := .agg #[Vi 0, Vi 0, Vi 0, Vi 0]) rfl rfl (by kernel_rfl) (fun b24 w24 hq24 hb24 he24 hz24 => ?_)
         replace hb24 : w24.heap[b24]? = some (.cells #[Vi 0, Vi 0, Vi 0, Vi 0] 76 (0, 0)) := hb24
         refine ⟨.inr (he24.nil), ?_⟩
         have hnb24 : b24 = ((wl17).drew).heap.size + 0 := by omega
         replace hnz : w24.heap.size = ((wl17).drew).heap.size + 1 := by omega
         have hst := Stp.box (ls := [[b2], B14, M]) he24 hq24
         replace hb2 := he24.box hb2 nn
         replace hs_p0_0 := hs_p0_0.step hst
         replace ho4 := ho4.step (plain_int _) he24 nn2
         replace hms := hms.box he24 hq24 hb24
         replace hfr := hfr.box hev.size hq24
         replace hev := hev.ext he24
         refine x_alloc (z := .agg #[Vi 0, Vi 0, Vi 0, Vi 0]) rfl rfl (by kernel_rfl) (fun b26 w26 hq26 hb26 he26 hz26 => ?_)
         replace hb26 : w26.heap[b26]? = some (.cells #[Vi 0, Vi 0, Vi 0, Vi 0] 76 (0, 0)) := hb26
         refine ⟨.inr (he26.nil), ?_⟩
         have hnb26 : b26 = ((wl17).drew).heap.size + 1 := by omega
         replace hnz : w26.heap.size = ((wl17).drew).heap.size + 2 := by omega
         have hst := Stp.box (ls := [[b24], [b2], B14, M]) he26 hq26
         replace hb2 := he26.box hb2 nn
         replace hs_p0_0 := hs_p0_0.step hst
         replace ho4 := ho4.step (plain_int _) he26 nn2
         replace hb24 := he26.box hb24 nn
         replace hms := hms.box he26 hq26 hb26
         replace hfr := hfr.box hev.size hq26
         replace hev := hev.ext he26
         obtain ⟨w28, hr28, hb28, he28⟩ := store_boxagg 0 [Vi x20.1, Vi x20.2.1, Vi x20.2.2.1, Vi x20.2.2.2] #[Vi x20.1, Vi x20.2.1, Vi x20.2.2.1, Vi x20.2.2.2] tagg76 hb26 rfl rfl rfl
         refine x_store w28 (xv := Vp b26 0) (yv := .agg #[Vi x20.1, Vi x20.2.1, Vi x20.2.2.1, Vi x20.2.2.2]) rfl rfl rfl rfl hr28 (⟨.inr (he28.sub (fun x hx => by simp only [List.mem_singleton] at hx; subst hx; exact newmo_mem hnb26 rfl)), ?_⟩)
         have hst := Stp.ev' (ls := [[b26], [b24], [b2], B14, M]) he28 (mem_flat 0 rfl)
         replace hb2 := he28.box hb2 (hms.apart 2 0 rfl rfl rfl _ mem1)
         replace hs_p0_0 := hs_p0_0.step hst
         replace ho4 := ho4.step (plain_int _) he28 (hms.apart 3 0 rfl rfl rfl)
         replace hb24 := he28.box hb24 (hms.apart 1 0 rfl rfl rfl _ mem1)
         replace hms := hms.ev he28
         replace hev := hev.then he28 (fun b hb => .inr (hfr.at 0 rfl b hb))
         replace hb26 := hb28
         obtain ⟨w29, hr29, hb29, he29⟩ := store_boxagg 0 [Vi x22.1, Vi x22.2.1, Vi x22.2.2.1, Vi x22.2.2.2] #[Vi x22.1, Vi x22.2.1, Vi x22.2.2.1, Vi x22.2.2.2] tagg76 hb24 rfl rfl rfl
         refine x_store w29 (xv := Vp b24 0) (yv := .agg #[Vi x22.1, Vi x22.2.1, Vi x22.2.2.1, Vi x22.2.2.2]) rfl rfl rfl rfl hr29 (inl1 ?_)
         have hst := Stp.ev' (ls := [[b26], [b24], [b2], B14, M]) he29 (mem_flat 1 rfl)
         replace hb2 := he29.box hb2 (hms.apart 2 1 rfl rfl rfl _ mem1)
         replace hs_p0_0 := hs_p0_0.step hst
         replace ho4 := ho4.step (plain_int _) he29 (hms.apart 3 1 rfl rfl rfl)
         replace hb26 := he29.box hb26 (hms.apart 0 1 rfl rfl rfl _ mem1)
         replace hms := hms.ev he29
         replace hev := hev.then he29 (fun b hb => .inr (hfr.at 1 rfl b hb))
         replace hb24 := hb29
         refine x_end rfl (t_stop ?_)
         have hpk := hms.pick [some 2, some 3, some 0, some 1, some 4] [[b2], B14, [b26], [b24], M] rfl
         have hsu := pick_sub (ls := [[b26], [b24], [b2], B14, M]) [some 2, some 3, some 0, some 1, some 4] [[b2], B14, [b26], [b24], M] rfl
         replace hs_p0_0 := hs_p0_0.sub hsu
         replace hms := hpk
         replace hfr := hfr.pick [some 2, some 3, some 0, some 1] [[b2], B14, [b26], [b24]] rfl
         clear hpk hsu
         exact k_then ⟨(x20.1, x20.2.1, x20.2.2.1, x20.2.2.2, x22.1, x22.2.1, x22.2.2.1, x22.2.2.2, b26, b24), ⟨rfl, rfl, rfl, rfl, rfl, rfl, rfl, rfl, rfl, rfl, trivial⟩, h, hev, hms, hfr, hs_p0_0, hb2, ho4, hb26, hb24⟩
       exact t_none
     rintro ⟨e25_j19_0, e25_j19_1, e25_j19_2, e25_j19_3, e27_j19_0, e27_j19_1, e27_j19_2, e27_j19_3, b25_j19, b27_j19⟩ J wj19 ⟨h, hev, hms, hfr, hs_p0_0, hb2, ho4, hb25_j19, hb27_j19⟩
     refine c_block (c_join (σ := Bool) (fun s => match s with | t48__s48_j24 => [(1, Vp b2 0), (3, .slice a4 (d5_l17).length c4), (4, Vi t14__s14_l6), (5, Vi t29__s29_l17), (13, Vi (((List.replicate (Int.toNat ((p0_0).length : Int)) ([] : List Int))).length : Int)), (14, Vi t14__s14_l6), (28, Vi ((x15).length : Int)), (29, Vi t29__s29_l17), (48, .bool t48__s48_j24)]) (fun s w' => match s with | t48__s48_j24 => leastcode_relations_J24 t14__s14_l6 d5_l17 t29__s29_l17 t48__s48_j24 = some t17 ∧ Ev [] w w' ∧ MS w' [[b2], B14, M] ∧ FR w.heap.size [[b2], B14] ∧ SlR (eIt4) w' (fl [[b2], B14, M]) a_p0_0 c_p0_0 p0_0 ∧ w'.heap[b2]? = some (.cells #[.slice a_p0_0 (p0_0).length c_p0_0, Vi p0_1] 50 (0, 0)) ∧ OwnR (eInt .i64) 3 22 w' B14 a4 c4 d5_l17 none) ?_ ?_)
     · refine c_plain (x_fieldAddr (xv := Vp b25_j19 0) (Vp b25_j19 0) rfl rfl rfl (reads_field tfld76_0 _ _) (x_load (xv := Vp b25_j19 0) (Vi e25_j19_0) rfl rfl rfl (reads_box tcell3 hb25_j19 nn 0 _ rfl) (x_fieldAddr (xv := Vp b27_j19 0) (Vp b27_j19 0) rfl rfl rfl (reads_field tfld76_0 _ _) (x_load (xv := Vp b27_j19 0) (Vi e27_j19_0) rfl rfl rfl (reads_box tcell3 hb27_j19 nn 0 _ rfl) (x_u 2 [(53, .bool (e25_j19_0 != e27_j19_0)), (54, .bool (e25_j19_0 != e27_j19_0))] ?_)))))
       refine x_if 54 (e25_j19_0 != e27_j19_0) rfl h (fun h => ?_) (fun h => ?_)
       · refine x_u 7 [(55, undef), (56, undef), (57, undef), (58, undef), (59, undef), (60, .bool true), (48, .bool true)] (x_end rfl ?_)
         have hpk := hms.pick [some 0, some 1, some 4] [[b2], B14, M] rfl
         have hsu := pick_sub (ls := [[b2], B14, [b25_j19], [b27_j19], M]) [some 0, some 1, some 4] [[b2], B14, M] rfl
         replace hs_p0_0 := hs_p0_0.sub hsu
         replace hms := hpk
         replace hfr := hfr.pick [some 0, some 1] [[b2], B14] rfl
         clear hpk hsu
         exact k_then ⟨true, ⟨rfl, rfl, rfl, rfl, rfl, rfl, rfl, rfl, rfl, trivial⟩, h, hev, hms, hfr, hs_p0_0, hb2, ho4⟩
       refine x_fieldAddr (xv := Vp b25_j19 0) (Vp b25_j19 1) rfl rfl rfl (reads_field tfld76_1 _ _) (x_load (xv := Vp b25_j19 1) (Vi e25_j19_1) rfl rfl rfl (reads_box tcell3 hb25_j19 nn 1 _ rfl) (x_fieldAddr (xv := Vp b27_j19 0) (Vp b27_j19 1) rfl rfl rfl (reads_field tfld76_1 _ _) (x_load (xv := Vp b27_j19 1) (Vi e27_j19_1) rfl rfl rfl (reads_box tcell3 hb27_j19 nn 1 _ rfl) (x_u 3 [(59, .bool (decide (e25_j19_1 ≥ e27_j19_1))), (60, .bool (decide (e25_j19_1 ≥ e27_j19_1))), (48, .bool (decide (e25_j19_1 ≥ e27_j19_1)))] (x_end rfl ?_)))))
       have hpk := hms.pick [some 0, some 1, some 4] [[b2], B14, M] rfl
       have hsu := pick_sub (ls := [[b2], B14, [b25_j19], [b27_j19], M]) [some 0, some 1, some 4] [[b2], B14, M] rfl
       replace hs_p0_0 := hs_p0_0.sub hsu
       replace hms := hpk
       replace hfr := hfr.pick [some 0, some 1] [[b2], B14] rfl
       clear hpk hsu
       exact k_then ⟨decide (e25_j19_1 ≥ e27_j19_1), ⟨rfl, rfl, rfl, rfl, rfl, rfl, rfl, rfl, rfl, trivial⟩, h, hev, hms, hfr, hs_p0_0, hb2, ho4⟩
     rintro t48__s48_j24 J wj24 ⟨h, hev, hms, hfr, hs_p0_0, hb2, ho4⟩
     refine c_if t48__s48_j24 rfl h (fun h => ?_) (fun h => ?_)
     · refine c_skip (k_block (k_block (k_then (c_nm [(1, Vp b2 0), (3, .slice a4 (d5_l17).length c4), (4, Vi t14__s14_l6), (13, Vi (((List.replicate (Int.toNat ((p0_0).length : Int)) ([] : List Int))).length : Int)), (14, Vi t14__s14_l6), (28, Vi ((x15).length : Int)), (29, Vi t29__s29_l17)] (fun J => ?_)))))
       refine c_plain (x_u 2 [(71, Vi (IntKind.i64.wrap (t29__s29_l17 + 1))), (29, Vi (IntKind.i64.wrap (t29__s29_l17 + 1)))] (x_end rfl ?_))
       obtain rfl := some_inj h
       exact k_then ⟨(m17, d5_l17, IntKind.i64.wrap (t29__s29_l17 + 1)), ⟨rfl, rfl, rfl, rfl, rfl, rfl, rfl, trivial⟩, ⟨hn17, hev, hms, hfr, hs_p0_0, hb2, ho4⟩, Nat.lt_succ_self _⟩
     refine c_sp (x_u 4 [(62, Vi t29__s29_l17), (63, Vi t14__s14_l6), (64, .bool (decide (t29__s29_l17 < t14__s14_l6))), (61, .bool (decide (t29__s29_l17 < t14__s14_l6)))] (x_ek (c_nm [(1, Vp b2 0), (3, .slice a4 (d5_l17).length c4), (4, Vi t14__s14_l6), (5, Vi t29__s29_l17), (13, Vi (((List.replicate (Int.toNat ((p0_0).length : Int)) ([] : List Int))).length : Int)), (14, Vi t14__s14_l6), (28, Vi ((x15).length : Int)), (29, Vi t29__s29_l17), (61, .bool (decide (t29__s29_l17 < t14__s14_l6)))] (fun J => ?_))))
     refine c_if (decide (t29__s29_l17 < t14__s14_l6)) rfl h (fun h => ?_) (fun h => ?_)
     · refine c_plain (x_u 2 [(65, .slice a4 (d5_l17).length c4), (66, Vi t14__s14_l6)] ?_)
       obtain ⟨x25, hx25, h⟩ := bind_some h
       obtain ⟨g25, ai25, ci25, hr25, hv25⟩ := OwnR.view (P := Tryz.prog) (Mo := []) tsl57 ho4 hx25
       refine x_indexAddr (xv := .slice a4 (d5_l17).length c4) (yv := Vi t14__s14_l6) (.pointer (some ⟨g25, (Int.toNat t14__s14_l6), none⟩)) rfl rfl rfl rfl hr25 (x_load (xv := .pointer (some ⟨g25, (Int.toNat t14__s14_l6), none⟩)) (.slice ai25 (x25).length ci25) rfl rfl rfl (RView.load tcell22 hv25) (x_u 1 [(69, Vi t29__s29_l17)] ?_))
       obtain ⟨x27, hx27, h⟩ := bind_some h
       obtain ⟨ad27, cs27, hr27, hc27, hR, hB27, hae27⟩ := RView.elem (P := Tryz.prog) (Mo := []) tsl22 hv25 hx27
       obtain rfl := hR
       refine x_indexAddr (xv := .slice ai25 (x25).length ci25) (yv := Vi t29__s29_l17) (.pointer (some ad27)) rfl rfl rfl rfl hr27 ?_
       obtain ⟨w29, hr29, he29, hv29, ho29⟩ := RView.store (P := Tryz.prog) (y := 2) (Vi 2) (plain_int _) tcell3 ho4 hv25 hx27 hae27 rfl rfl (fun _ _ _ hR => set_int hR)
       refine x_store w29 (xv := .pointer (some ad27)) (yv := Vi 2) rfl rfl rfl rfl hr29 (inl1 ?_)
       have hst := Stp.ev' (ls := [[b2], B14, M]) he29 (mem_flat 1 rfl)
       replace hb2 := he29.box hb2 (hms.apart 0 1 rfl rfl rfl _ mem1)
       replace hs_p0_0 := hs_p0_0.step hst
       replace hms := hms.ev he29
       replace hev := hev.then he29 (fun b hb => .inr (hfr.at 1 rfl b hb))
       replace ho4 := ho29
       have hsl : (Value.slice a4 (d5_l17).length c4) = (Value.slice a4 ((d5_l17.set (Int.toNat t14__s14_l6) (x25.set (Int.toNat t29__s29_l17) 2))).length c4) := by first | (rw [List.length_set]; done) | simp only [List.length_set]
       try rw [hsl]
       clear hsl
       have hsl : (Value.slice ai25 (x25).length ci25) = (Value.slice ai25 ((x25.set (Int.toNat t29__s29_l17) 2)).length ci25) := by first | (rw [List.length_set]; done) | simp only [List.length_set]
       try rw [hsl]
       clear hsl
       refine x_end rfl (k_block (k_block (k_then (c_plain (x_u 2 [(71, Vi (IntKind.i64.wrap (t29__s29_l17 + 1))), (29, Vi (IntKind.i64.wrap (t29__s29_l17 + 1)))] ?_)))))
       refine x_end rfl ?_
       obtain rfl := some_inj h
       exact k_then ⟨(m17, (d5_l17.set (Int.toNat t14__s14_l6) (x25.set (Int.toNat t29__s29_l17) 2)), IntKind.i64.wrap (t29__s29_l17 + 1)), ⟨rfl, rfl, rfl, rfl, rfl, rfl, rfl, trivial⟩, ⟨hn17, hev, hms, hfr, hs_p0_0, hb2, ho4⟩, Nat.lt_succ_self _⟩
     refine c_plain (x_u 2 [(42, .slice a4 (d5_l17).length c4), (43, Vi t14__s14_l6)] ?_)
     obtain ⟨x30, hx30, h⟩ := bind_some h
     obtain ⟨g30, ai30, ci30, hr30, hv30⟩ := OwnR.view (P := Tryz.prog) (Mo := []) tsl57 ho4 hx30
     refine x_indexAddr (xv := .slice a4 (d5_l17).length c4) (yv := Vi t14__s14_l6) (.pointer (some ⟨g30, (Int.toNat t14__s14_l6), none⟩)) rfl rfl rfl rfl hr30 (x_load (xv := .pointer (some ⟨g30, (Int.toNat t14__s14_l6), none⟩)) (.slice ai30 (x30).length ci30) rfl rfl rfl (RView.load tcell22 hv30) (x_u 1 [(46, Vi t29__s29_l17)] ?_))
     obtain ⟨x32, hx32, h⟩ := bind_some h
     obtain ⟨ad32, cs32, hr32, hc32, hR, hB32, hae32⟩ := RView.elem (P := Tryz.prog) (Mo := []) tsl22 hv30 hx32
     obtain rfl := hR
     refine x_indexAddr (xv := .slice ai30 (x30).length ci30) (yv := Vi t29__s29_l17) (.pointer (some ad32)) rfl rfl rfl rfl hr32 ?_
     obtain ⟨w34, hr34, he34, hv34, ho34⟩ := RView.store (P := Tryz.prog) (y := 1) (Vi 1) (plain_int _) tcell3 ho4 hv30 hx32 hae32 rfl rfl (fun _ _ _ hR => set_int hR)
     refine x_store w34 (xv := .pointer (some ad32)) (yv := Vi 1) rfl rfl rfl rfl hr34 (inl1 ?_)
     have hst := Stp.ev' (ls := [[b2], B14, M]) he34 (mem_flat 1 rfl)
     replace hb2 := he34.box hb2 (hms.apart 0 1 rfl rfl rfl _ mem1)
     replace hs_p0_0 := hs_p0_0.step hst
     replace hms := hms.ev he34
     replace hev := hev.then he34 (fun b hb => .inr (hfr.at 1 rfl b hb))
     replace ho4 := ho34
     have hsl : (Value.slice a4 (d5_l17).length c4) = (Value.slice a4 ((d5_l17.set (Int.toNat t14__s14_l6) (x30.set (Int.toNat t29__s29_l17) 1))).length c4) := by first | (rw [List.length_set]; done) | simp only [List.length_set]
     try rw [hsl]
     clear hsl
     have hsl : (Value.slice ai30 (x30).length ci30) = (Value.slice ai30 ((x30.set (Int.toNat t29__s29_l17) 1)).length ci30) := by first | (rw [List.length_set]; done) | simp only [List.length_set]
     try rw [hsl]
     clear hsl
     refine x_end rfl (k_block (k_block (k_then (c_plain (x_u 2 [(71, Vi (IntKind.i64.wrap (t29__s29_l17 + 1))), (29, Vi (IntKind.i64.wrap (t29__s29_l17 + 1)))] ?_)))))
     refine x_end rfl ?_
     obtain rfl := some_inj h
     exact k_then ⟨(m17, (d5_l17.set (Int.toNat t14__s14_l6) (x30.set (Int.toNat t29__s29_l17) 1)), IntKind.i64.wrap (t29__s29_l17 + 1)), ⟨rfl, rfl, rfl, rfl, rfl, rfl, rfl, trivial⟩, ⟨hn17, hev, hms, hfr, hs_p0_0, hb2, ho4⟩, Nat.lt_succ_self _⟩
   refine c_exit (k_then_exit ?_)
   obtain rfl := some_inj h
   have hy := some_inj hn17
   subst hy
   replace h := h17
   refine k_then_exit (k_block_in (k_block (k_then (c_nm [(1, Vp b2 0), (3, .slice a4 (d5_l17).length c4), (13, Vi (((List.replicate (Int.toNat ((p0_0).length : Int)) ([] : List Int))).length : Int)), (14, Vi t14__s14_l6)] (fun J => ?_)))))
   refine c_plain (x_u 2 [(72, Vi (IntKind.i64.wrap (t14__s14_l6 + 1))), (14, Vi (IntKind.i64.wrap (t14__s14_l6 + 1)))] (x_end rfl ?_))
   obtain rfl := some_inj h
   exact k_then ⟨(m6, d5_l17, IntKind.i64.wrap (t14__s14_l6 + 1), B14), ⟨rfl, rfl, rfl, rfl, trivial⟩, ⟨hn6, hev, hms, hfr, hs_p0_0, hb2, ho4⟩, Nat.lt_succ_self _⟩
 refine c_exit (k_then_exit ?_)
 obtain rfl := some_inj h
 have hy := some_inj hn6
 subst hy
 replace h := h6
 refine k_then_exit (k_block_in (k_then (c_nm [(3, .slice a4 (d5_l6).length c4)] (fun J => ?_))))
 refine c_sp (x_u 2 [(73, .slice a4 (d5_l6).length c4), (2, .slice a4 (d5_l6).length c4)] (x_ek (c_ret (r_ret (r_vals [.slice a4 (d5_l6).length c4] ⟨rfl, trivial⟩ ?_)))))
 obtain rfl := some_inj h
 have hmr := hms.pick [some 1, some 2] [B5_l6, M] rfl
 have hfe := hfr.pick [some 1] [B5_l6] rfl
 exact ⟨a4, c4, B5_l6, rfl, hev, hmr, hfe, ho4⟩
def leastcode_solve_1 (p0 : Int) (p1 : Int) (p2_0 : List (Int × Int × Int × Int)) (p2_1 : Int) : Option Int :=
((idx p2_0 p0).bind fun x3 =>
((idx p2_0 p1).bind fun x5 =>
some (IntKind.i64.wrap (x3.2.1 - x5.2.1))))
theorem leastcode_solve_1_w (p0 : Int) (p1 : Int) (b_p2 : Nat) (a_p2_0 : Option Addr) (c_p2_0 : Nat) (p2_0 : List (Int × Int × Int × Int)) (p2_1 : Int) (r : Int) (w : World) (M : List Nat) (hms : MS w [[b_p2], M]) (hs_p2_0 : SlR (eIt4) w (fl [[b_p2], M]) a_p2_0 c_p2_0 p2_0) (hb_p2 : w.heap[b_p2]? = some (.cells #[Vl a_p2_0 p2_0 c_p2_0, Vi p2_1] 50 (0, 0))) (h : leastcode_solve_1 p0 p1 p2_0 p2_1 = some r) : CallVC Tryz.prog 110 [Vi p0, Vi p1, Vp b_p2 0] w fun v w' => (∃ q, w' = w.drewN q) ∧ v = Vi r ∧ Ev [b_p2] w w' ∧ w'.heap[b_p2]? = some (.cells #[Vl a_p2_0 p2_0 c_p2_0, Vi p2_1] 50 (0, 0)) := by
 refine calls_vc hmx Tryz.func110 (by kernel_rfl) rfl (rs := [.tmp 5]) rfl (by kernel_rfl) (args := [Vi p0, Vi p1, Vp b_p2 0]) rfl ?_
 have hev : Ev [b_p2] w w := Ev.refl _ _
 refine c_sp (x_u 1 [(5, Vi 0)] (x_ek (c_seq (c_drawn [] [(0, false), (1, false), (2, false), (3, false), (4, false), (5, false), (6, false), (7, false), (8, false), (9, false), (10, false), (11, false), (12, false), (13, false)] _ (by kernel_rfl) rfl ?_))))
 have hst := Stp.ext (ls := [[b_p2], M]) (Ev.drew w)
 replace hs_p2_0 := hs_p2_0.step hst
 replace hb_p2 := (Ev.drew w).box hb_p2 nn
 replace hev := hev.ext (Ev.drew w)
 refine x_fieldAddr (xv := Vp b_p2 0) (Vp b_p2 0) rfl rfl rfl (reads_field tfld50_0 _ _) (x_load (xv := Vp b_p2 0) (Vl a_p2_0 p2_0 c_p2_0) rfl rfl rfl (reads_box tcell36 hb_p2 nn 0 _ rfl) (x_u 1 [(8, Vi p0)] ?_))
 obtain ⟨x3, hx3, h⟩ := bind_some h
 obtain ⟨ad3, cs3, hr3, hc3, hR⟩ := reads_index (Mo := []) tsl36 hs_p2_0 hx3
 obtain ⟨_, _, rfl, rfl, ⟨_, _, rfl, rfl, ⟨_, _, rfl, rfl, rfl⟩⟩⟩ := hR
 refine x_indexAddr (xv := Vl a_p2_0 p2_0 c_p2_0) (yv := Vi p0) (.pointer (some ad3)) rfl rfl rfl rfl hr3 (x_fieldAddr (xv := .pointer (some ad3)) (.pointer (some (Addr.add ad3 1))) rfl rfl rfl (reads_field tfld76_1 _ _) (x_load (xv := .pointer (some (Addr.add ad3 1))) (Vi x3.2.1) rfl rfl rfl (reads_cell tcell3 hc3 (fun _ h => by cases h) 1 _ rfl) ?_))
 refine x_fieldAddr (xv := Vp b_p2 0) (Vp b_p2 0) rfl rfl rfl (reads_field tfld50_0 _ _) (x_load (xv := Vp b_p2 0) (Vl a_p2_0 p2_0 c_p2_0) rfl rfl rfl (reads_box tcell36 hb_p2 nn 0 _ rfl) (x_u 1 [(14, Vi p1)] ?_))
 obtain ⟨x5, hx5, h⟩ := bind_some h
 obtain ⟨ad5, cs5, hr5, hc5, hR⟩ := reads_index (Mo := []) tsl36 hs_p2_0 hx5
 obtain ⟨_, _, rfl, rfl, ⟨_, _, rfl, rfl, ⟨_, _, rfl, rfl, rfl⟩⟩⟩ := hR
 refine x_indexAddr (xv := Vl a_p2_0 p2_0 c_p2_0) (yv := Vi p1) (.pointer (some ad5)) rfl rfl rfl rfl hr5 (x_fieldAddr (xv := .pointer (some ad5)) (.pointer (some (Addr.add ad5 1))) rfl rfl rfl (reads_field tfld76_1 _ _) (x_load (xv := .pointer (some (Addr.add ad5 1))) (Vi x5.2.1) rfl rfl rfl (reads_cell tcell3 hc5 (fun _ h => by cases h) 1 _ rfl) ?_))
 refine x_u 2 [(18, Vi (IntKind.i64.wrap (x3.2.1 - x5.2.1))), (5, Vi (IntKind.i64.wrap (x3.2.1 - x5.2.1)))] (x_ek (c_nm [(5, Vi (IntKind.i64.wrap (x3.2.1 - x5.2.1)))] (fun J => ?_)))
 refine c_ret (r_ret (r_vals [Vi (IntKind.i64.wrap (x3.2.1 - x5.2.1))] ⟨rfl, trivial⟩ ?_))
 obtain rfl := some_inj h
 exact ⟨⟨1, rfl⟩, rfl, hev, hb_p2⟩
def leastcode_solve_L23 (p0_0 : List (Int × Int × Int × Int)) (p1 : List (List Int)) (d17_l18 : List Int) (x20 : Int) (s : (List Int) × Int) : Option (Step ((List Int) × Int) (List Int)) :=
match s with
| (d15_l23, t47__s47_l23) =>
(if (decide (t47__s47_l23 < ((p0_0).length : Int))) = true then
((idx p1 t47__s47_l23).bind fun x25 =>
((idx x25 x20).bind fun x29 =>
(if (decide (x29 > 0)) = true then
((idx d15_l23 x20).bind fun x31 =>
((idx d17_l18 t47__s47_l23).bind fun x33 =>
((idx d15_l23 x20).bind fun x35 =>
some (.next ((d15_l23.set (Int.toNat x20) (if (IntKind.i64.wrap ((IntKind.i64.wrap (x33 + x29)) - 1)) > x31 then (IntKind.i64.wrap ((IntKind.i64.wrap (x33 + x29)) - 1)) else x31)), IntKind.i64.wrap (t47__s47_l23 + 1))))))
else
some (.next (d15_l23, IntKind.i64.wrap (t47__s47_l23 + 1))))))
else
some (.done d15_l23))
def leastcode_solve_L18 (p0_0 : List (Int × Int × Int × Int)) (p0_1 : Int) (p1 : List (List Int)) (x12 : List Int) (s : (List Int) × (List Int) × Int) : Option (Step ((List Int) × (List Int) × Int) (Int ⊕ ((List Int) × (List Int)))) :=
match s with
| (d15_l18, d17_l18, t40__s40_l18) =>
(if (decide (t40__s40_l18 < ((x12).length : Int))) = true then
((idx x12 t40__s40_l18).bind fun x20 =>
((loop (leastcode_solve_L23 p0_0 p1 d17_l18 x20) (d15_l18, 0)).bind fun d => match d with
| d15_x23 => ((idx d15_x23 x20).bind fun x38 =>
((idx p0_0 x20).bind fun x40 =>
((code_Next x38 x40.2.2.1 p0_1).bind fun x42 =>
(if (x42.2 != 0) = true then
some (.done (.inl x42.2))
else
((idx d17_l18 x20).bind fun x44 =>
some (.next (d15_x23, (d17_l18.set (Int.toNat x20) x42.1), IntKind.i64.wrap (t40__s40_l18 + 1))))))))))
else
some (.done (.inr (d15_l18, d17_l18))))
def leastcode_solve_L8 (p0_0 : List (Int × Int × Int × Int)) (s : (List Int) × Int) : Option (Step ((List Int) × Int) (List Int)) :=
match s with
| (d6_l8, t21__s21_l8) =>
(if (decide (t21__s21_l8 < (((List.replicate (Int.toNat ((p0_0).length : Int)) 0 : List Int)).length : Int))) = true then
((idx d6_l8 t21__s21_l8).bind fun x9 =>
some (.next ((d6_l8.set (Int.toNat t21__s21_l8) t21__s21_l8), IntKind.i64.wrap (t21__s21_l8 + 1))))
else
some (.done d6_l8))
def leastcode_solve (p0_0 : List (Int × Int × Int × Int)) (p0_1 : Int) (p1 : List (List Int)) : Option ((List Int) × (List Int) × Int) :=
(if (0 : Int) ≤ ((p0_0).length : Int) ∧ (((p0_0).length : Int) : Int) ≤ 4294967296 then
((loop (leastcode_solve_L8 p0_0) ((List.replicate (Int.toNat ((p0_0).length : Int)) 0 : List Int), 0)).bind fun d => match d with
| d6_x8 => ((sortF (fun sx sy => leastcode_solve_1 sx sy p0_0 p0_1) d6_x8).bind fun x12 =>
(if (0 : Int) ≤ ((x12).length : Int) ∧ (((x12).length : Int) : Int) ≤ 4294967296 then
(if (0 : Int) ≤ ((x12).length : Int) ∧ (((x12).length : Int) : Int) ≤ 4294967296 then
((loop (leastcode_solve_L18 p0_0 p0_1 p1 x12) ((List.replicate (Int.toNat ((x12).length : Int)) 0 : List Int), (List.replicate (Int.toNat ((x12).length : Int)) 0 : List Int), 0)).bind fun d => match d with
| (.inl v_e_s6_x1800) => some ([], [], v_e_s6_x1800)
| (.inr (d15_x1801, d17_x1801)) => some (d15_x1801, d17_x1801, 0))
else none)
else none)))
else none)
theorem leastcode_solve_w (a_p0_0 : Option Addr) (c_p0_0 : Nat) (p0_0 : List (Int × Int × Int × Int)) (p0_1 : Int) (a_p1 : Option Addr) (c_p1 : Nat) (p1 : List (List Int)) (r : (List Int) × (List Int) × Int) (w : World) (M : List Nat) (hms : MS w [M]) (hs_p0_0 : SlR (eIt4) w (fl [M]) a_p0_0 c_p0_0 p0_0) (hs_p1 : SlR (eSl (eInt .i64)) w (fl [M]) a_p1 c_p1 p1) (h : leastcode_solve p0_0 p0_1 p1 = some r) : CallVC Tryz.prog 79 [.agg #[.slice a_p0_0 (p0_0).length c_p0_0, Vi p0_1], .slice a_p1 (p1).length c_p1] w fun v w' => ∃ (a0' : Option Addr), ∃ (c0' : Nat), ∃ (a2' : Option Addr), ∃ (c2' : Nat), v = .tuple #[.slice a0' (r.1).length c0', .slice a2' (r.2.1).length c2', Vi r.2.2] ∧ Ev [] w w' ∧ MS w' [blk a0', blk a2', M] ∧ FR w.heap.size [blk a0', blk a2'] ∧ OwnS (eInt .i64) 3 w' (fl [blk a0', blk a2', M]) a0' c0' r.1 ∧ OwnS (eInt .i64) 3 w' (fl [blk a0', blk a2', M]) a2' c2' r.2.1 := by
 refine calls_vc hmx Tryz.func79 (by kernel_rfl) rfl (rs := [.tmp 4, .tmp 5, .tmp 6]) rfl (by kernel_rfl) (args := [.agg #[.slice a_p0_0 (p0_0).length c_p0_0, Vi p0_1], .slice a_p1 (p1).length c_p1]) rfl ?_
 have hev : Ev [] w w := Ev.refl _ _
 have hfr : FR w.heap.size [] := FR.nil _
 refine c_sp (x_box (xv := .agg #[.slice a_p0_0 (p0_0).length c_p0_0, Vi p0_1]) rfl rfl rfl (fun b3 w3 hq3 hb3 he3 hz3 => ?_))
 replace hb3 : w3.heap[b3]? = some (.cells #[.slice a_p0_0 (p0_0).length c_p0_0, Vi p0_1] 50 (0, 0)) := hb3
 refine inl1 ?_
 have hst := Stp.box (ls := [M]) he3 hq3
 replace hs_p0_0 := hs_p0_0.step hst
 replace hs_p1 := hs_p1.step hst
 replace hms := hms.box he3 hq3 hb3
 replace hfr := hfr.box hev.size hq3
 replace hev := hev.ext he3
 refine x_u 3 [(4, .slice none 0 0), (5, .slice none 0 0), (6, Vi 0)] (x_ek (c_sp (x_fieldAddr (xv := Vp b3 0) (Vp b3 0) rfl rfl rfl (reads_field tfld50_0 _ _) (x_load (xv := Vp b3 0) (.slice a_p0_0 (p0_0).length c_p0_0) rfl rfl rfl (reads_box tcell36 hb3 nn 0 _ rfl) (x_len (vs := [.slice a_p0_0 (p0_0).length c_p0_0]) (Vi ((p0_0).length : Int)) rfl rfl rfl (reads_len tsl36 _ _ _ _ _) ?_)))))
 have hg := guard_l h
 replace h := guard_r h
 obtain ⟨a5, c5, w5, hr5, he5, hn5, hw5⟩ := own_make (e := (eInt .i64)) tel22 w3 ((p0_0).length : Int) hg.1 hg.2 0 (fun _ _ => rfl)
 refine x_makeSlice _ w5 (xv := Vi ((p0_0).length : Int)) (yv := Vi ((p0_0).length : Int)) rfl rfl rfl rfl hr5 (inl1 ?_)
 have hst := Stp.push (ls := [[b3], M]) (l := blk a5) he5 (fun _ h => by cases h) (fun b hb => (hn5 b hb).1)
 replace hs_p0_0 := hs_p0_0.step hst
 replace hs_p1 := hs_p1.step hst
 replace hb3 := he5.box hb3 nn
 replace hms := hms.push he5 hn5
 replace hfr := hfr.push (fun b hb => Nat.le_trans hev.size (hn5 b hb).1)
 replace hev := hev.ext he5
 have ho5 := hw5 (fl [blk a5, [b3], M])
 clear hw5
 refine x_u 1 [(7, .slice a5 ((List.replicate (Int.toNat ((p0_0).length : Int)) 0 : List Int)).length c5)] (x_ek (c_seq (c_sp (x_u 1 [(19, .slice a5 ((List.replicate (Int.toNat ((p0_0).length : Int)) 0 : List Int)).length c5)] (x_len (vs := [.slice a5 ((List.replicate (Int.toNat ((p0_0).length : Int)) 0 : List Int)).length c5]) (Vi (((List.replicate (Int.toNat ((p0_0).length : Int)) 0 : List Int)).length : Int)) rfl rfl rfl (reads_len tsl22 _ _ _ _ _) ?_)))))
 refine x_u 1 [(21, Vi 0)] (x_ek (c_block ?_))
 have hpk := hms.pick [some 1, some 0, some 2] [[b3], blk a5, M] rfl
 have hsu := pick_sub (ls := [blk a5, [b3], M]) [some 1, some 0, some 2] [[b3], blk a5, M] rfl
 replace hs_p1 := hs_p1.sub hsu
 replace hs_p0_0 := hs_p0_0.sub hsu
 replace ho5 := ho5.sub hsu
 replace hms := hpk
 replace hfr := hfr.pick [some 1, some 0] [[b3], blk a5] rfl
 clear hpk hsu
 obtain ⟨d8, hd8, h8⟩ := bind_some h
 obtain ⟨m8, hd8⟩ := loop_some hd8
 refine c_loop (loop_rule hmx (σ := Nat × (List Int) × Int) (fun s => match s with | (_, d6_l8, t21__s21_l8) => [(1, .slice a_p1 (p1).length c_p1), (2, Vp b3 0), (7, .slice a5 (d6_l8).length c5), (20, Vi (((List.replicate (Int.toNat ((p0_0).length : Int)) 0 : List Int)).length : Int)), (21, Vi t21__s21_l8)]) (fun s w' => match s with | (m, d6_l8, t21__s21_l8) => loopN (leastcode_solve_L8 p0_0) m (d6_l8, t21__s21_l8) = some d8 ∧ Ev [] w w' ∧ MS w' [[b3], blk a5, M] ∧ FR w.heap.size [[b3], blk a5] ∧ SlR (eSl (eInt .i64)) w' (fl [[b3], blk a5, M]) a_p1 c_p1 p1 ∧ SlR (eIt4) w' (fl [[b3], blk a5, M]) a_p0_0 c_p0_0 p0_0 ∧ w'.heap[b3]? = some (.cells #[.slice a_p0_0 (p0_0).length c_p0_0, Vi p0_1] 50 (0, 0)) ∧ OwnS (eInt .i64) 3 w' (fl [[b3], blk a5, M]) a5 c5 d6_l8) (fun s => s.1) (m8, (List.replicate (Int.toNat ((p0_0).length : Int)) 0 : List Int), 0) ⟨rfl, rfl, rfl, rfl, rfl, trivial⟩ ⟨hd8, hev, hms, hfr, hs_p1, hs_p0_0, hb3, ho5⟩ ?_)
 rintro ⟨m8, d6_l8, t21__s21_l8⟩ J wl8 ⟨hn8, hev, hms, hfr, hs_p1, hs_p0_0, hb3, ho5⟩
 rcases m8 with _ | m8
 · exact (loopN_zero hn8).elim
 obtain ⟨t8, h, hn8⟩ := bind_some hn8
 refine c_sp (x_u 1 [(22, .bool (decide (t21__s21_l8 < (((List.replicate (Int.toNat ((p0_0).length : Int)) 0 : List Int)).length : Int))))] (x_ek (c_nm [(1, .slice a_p1 (p1).length c_p1), (2, Vp b3 0), (7, .slice a5 (d6_l8).length c5), (20, Vi (((List.replicate (Int.toNat ((p0_0).length : Int)) 0 : List Int)).length : Int)), (21, Vi t21__s21_l8), (22, .bool (decide (t21__s21_l8 < (((List.replicate (Int.toNat ((p0_0).length : Int)) 0 : List Int)).length : Int))))] (fun J => ?_))))
 refine c_seq (c_if (decide (t21__s21_l8 < (((List.replicate (Int.toNat ((p0_0).length : Int)) 0 : List Int)).length : Int))) rfl h (fun h => ?_) (fun h => ?_))
 · refine c_skip (k_then (c_seq (c_block (c_sp (x_u 2 [(23, Vi t21__s21_l8), (8, Vi t21__s21_l8)] ?_)))))
   refine x_ek (c_plain (x_u 3 [(24, .slice a5 (d6_l8).length c5), (25, Vi t21__s21_l8), (26, Vi t21__s21_l8)] ?_))
   obtain ⟨x9, hx9, h⟩ := bind_some h
   obtain ⟨g9, cs9, ha9, hr9, hc9, hR⟩ := own_index (Mo := []) tsl22 ho5 hx9
   obtain rfl := hR
   refine x_indexAddr (xv := .slice a5 (d6_l8).length c5) (yv := Vi t21__s21_l8) (.pointer (some ⟨g9, (Int.toNat t21__s21_l8) * (eInt .i64).n, none⟩)) rfl rfl rfl rfl hr9 ?_
   obtain ⟨w11, hr11, he11, ho11⟩ := own_storeE ha9 (y := t21__s21_l8) 0 (Vi t21__s21_l8) tcell3 ho5 (mem_flat 1 rfl) hx9 rfl rfl (fun _ _ _ hR => set_int hR)
   refine x_store w11 (xv := .pointer (some ⟨g9, (Int.toNat t21__s21_l8) * (eInt .i64).n, none⟩)) (yv := Vi t21__s21_l8) rfl rfl rfl rfl hr11 (inl1 ?_)
   have hst := Stp.ev' (ls := [[b3], blk a5, M]) he11 (mem_flat 1 rfl)
   replace hs_p1 := hs_p1.step hst
   replace hb3 := he11.box hb3 (hms.apart 0 1 rfl rfl rfl _ mem1)
   replace hs_p0_0 := hs_p0_0.step hst
   replace hms := hms.ev he11
   replace hev := hev.then he11 (fun b hb => .inr (hfr.at 1 rfl b hb))
   replace ho5 := ho11
   have hsl : (Value.slice a5 (d6_l8).length c5) = (Value.slice a5 ((d6_l8.set (Int.toNat t21__s21_l8) t21__s21_l8)).length c5) := by first | (rw [List.length_set]; done) | simp only [List.length_set]
   try rw [hsl]
   clear hsl
   refine x_end rfl (k_block (k_then (c_plain (x_u 2 [(28, Vi (IntKind.i64.wrap (t21__s21_l8 + 1))), (21, Vi (IntKind.i64.wrap (t21__s21_l8 + 1)))] (x_end rfl ?_)))))
   obtain rfl := some_inj h
   exact k_then ⟨(m8, (d6_l8.set (Int.toNat t21__s21_l8) t21__s21_l8), IntKind.i64.wrap (t21__s21_l8 + 1)), ⟨rfl, rfl, rfl, rfl, rfl, trivial⟩, ⟨hn8, hev, hms, hfr, hs_p1, hs_p0_0, hb3, ho5⟩, Nat.lt_succ_self _⟩
 refine c_exit (k_then_exit ?_)
 obtain rfl := some_inj h
 have hy := some_inj hn8
 subst hy
 replace h := h8
 refine k_then_exit (k_block_in (k_then (c_nm [(1, .slice a_p1 (p1).length c_p1), (2, Vp b3 0), (7, .slice a5 (d6_l8).length c5)] (fun J => ?_))))
 refine c_sp (x_u 1 [(29, .slice a5 (d6_l8).length c5)] (x_makeFunc 110 #[] #[Vp b3 0] rfl rfl rfl rfl ?_))
 obtain ⟨x12, hx, h⟩ := bind_some h
 have hcall := sortF_w (P := Tryz.prog) Lsortfunc (f := 109) (g := 110) rfl ⟨_, Tryz.func109, by kernel_rfl, rfl⟩ ⟨_, Tryz.func110, by kernel_rfl, rfl⟩ [Vp b3 0] (T := 3) (fun sx sy => leastcode_solve_1 sx sy p0_0 p0_1) ho5 (fun w9 sx sy sr he9 hx9 => by
 · have hst9 := Stp.ev' (ls := [[b3], blk a5, M]) he9 (mem_flat 1 rfl)
   have hms9 := hms.ev he9
   have hpk9 : MS w9 ([[b3]] ++ [M]) := hms9.pick [some 0, some 2] _ rfl
   have hsb0 : ∀ x ∈ fl ([[b3]] ++ [M]), x ∈ fl [[b3], blk a5, M] := pick_sub [some 0, some 2] _ rfl
   have hsb9 : ∀ x ∈ fl ([[b3]] ++ [fl [M]]), x ∈ fl [[b3], blk a5, M] := fun x hx => hsb0 x (fl_unfold x hx)
   exact (leastcode_solve_1_w sx sy b3 a_p0_0 c_p0_0 p0_0 p0_1 sr w9 (fl [M]) (hpk9.fold (P := [[b3]])) ((hs_p0_0.step hst9).sub hsb9) (he9.box hb3 (hms.apart 0 1 rfl rfl rfl _ mem1)) hx9).mono (fun v u hh => ⟨hh.2.1, hh.1⟩)) hx
 refine x_call 109 #[] #[] [.slice a5 (d6_l8).length c5, (.func (.func 110) #[] #[Vp b3 0])] _ rfl rfl rfl rfl hcall ?_
 rintro v w13 ⟨rfl, he13, hln13, hw13⟩
 clear hcall hx
 refine inl1 ?_
 have hst := Stp.ev' (ls := [[b3], blk a5, M]) he13 (mem_flat 1 rfl)
 replace hs_p1 := hs_p1.step hst
 replace hb3 := he13.box hb3 (hms.apart 0 1 rfl rfl rfl _ mem1)
 replace hs_p0_0 := hs_p0_0.step hst
 replace hms := hms.ev he13
 replace hev := hev.then he13 (fun b hb => .inr (hfr.at 1 rfl b hb))
 replace ho5 := hw13 (fl [[b3], blk a5, M])
 have hsl : (Value.slice a5 (d6_l8).length c5) = (Value.slice a5 (x12).length c5) := by first | (rw [hln13]; done) | simp only [hln13]
 try rw [hsl]
 clear hsl
 refine x_ek (c_sp (x_u 1 [(32, .slice a5 (x12).length c5)] (x_len (vs := [.slice a5 (x12).length c5]) (Vi ((x12).length : Int)) rfl rfl rfl (reads_len tsl22 _ _ _ _ _) ?_)))
 have hg := guard_l h
 replace h := guard_r h
 obtain ⟨a14, c14, w14, hr14, he14, hn14, hw14⟩ := own_make (e := (eInt .i64)) tel22 w13 ((x12).length : Int) hg.1 hg.2 0 (fun _ _ => rfl)
 refine x_makeSlice _ w14 (xv := Vi ((x12).length : Int)) (yv := Vi ((x12).length : Int)) rfl rfl rfl rfl hr14 (inl1 ?_)
 have hst := Stp.push (ls := [[b3], blk a5, M]) (l := blk a14) he14 (fun _ h => by cases h) (fun b hb => (hn14 b hb).1)
 replace hs_p1 := hs_p1.step hst
 replace hb3 := he14.box hb3 nn
 replace hs_p0_0 := hs_p0_0.step hst
 replace ho5 := ho5.step hst he14 nn2
 replace hms := hms.push he14 hn14
 replace hfr := hfr.push (fun b hb => Nat.le_trans hev.size (hn14 b hb).1)
 replace hev := hev.ext he14
 have ho14 := hw14 (fl [blk a14, [b3], blk a5, M])
 clear hw14
 refine x_u 1 [(4, .slice a14 ((List.replicate (Int.toNat ((x12).length : Int)) 0 : List Int)).length c14)] (x_ek (c_sp (x_u 1 [(35, .slice a5 (x12).length c5)] (x_len (vs := [.slice a5 (x12).length c5]) (Vi ((x12).length : Int)) rfl rfl rfl (reads_len tsl22 _ _ _ _ _) ?_))))
 have hg := guard_l h
 replace h := guard_r h
 obtain ⟨a16, c16, w16, hr16, he16, hn16, hw16⟩ := own_make (e := (eInt .i64)) tel22 w14 ((x12).length : Int) hg.1 hg.2 0 (fun _ _ => rfl)
 refine x_makeSlice _ w16 (xv := Vi ((x12).length : Int)) (yv := Vi ((x12).length : Int)) rfl rfl rfl rfl hr16 (inl1 ?_)
 have hst := Stp.push (ls := [blk a14, [b3], blk a5, M]) (l := blk a16) he16 (fun _ h => by cases h) (fun b hb => (hn16 b hb).1)
 replace hs_p1 := hs_p1.step hst
 replace hb3 := he16.box hb3 nn
 replace hs_p0_0 := hs_p0_0.step hst
 replace ho5 := ho5.step hst he16 nn2
 replace ho14 := ho14.step hst he16 nn2
 replace hms := hms.push he16 hn16
 replace hfr := hfr.push (fun b hb => Nat.le_trans hev.size (hn16 b hb).1)
 replace hev := hev.ext he16
 have ho16 := hw16 (fl [blk a16, blk a14, [b3], blk a5, M])
 clear hw16
 refine x_u 1 [(5, .slice a16 ((List.replicate (Int.toNat ((x12).length : Int)) 0 : List Int)).length c16)] (x_ek (c_seq (c_sp (x_u 1 [(38, .slice a5 (x12).length c5)] (x_len (vs := [.slice a5 (x12).length c5]) (Vi ((x12).length : Int)) rfl rfl rfl (reads_len tsl22 _ _ _ _ _) ?_)))))
 refine x_u 1 [(40, Vi 0)] (x_ek (c_nm [(1, .slice a_p1 (p1).length c_p1), (2, Vp b3 0), (4, .slice a14 ((List.replicate (Int.toNat ((x12).length : Int)) 0 : List Int)).length c14), (5, .slice a16 ((List.replicate (Int.toNat ((x12).length : Int)) 0 : List Int)).length c16), (38, .slice a5 (x12).length c5), (39, Vi ((x12).length : Int)), (40, Vi 0)] (fun J => ?_)))
 refine c_block ?_
 have hpk := hms.pick [some 2, some 1, some 0, some 3, some 4] [[b3], blk a14, blk a16, blk a5, M] rfl
 have hsu := pick_sub (ls := [blk a16, blk a14, [b3], blk a5, M]) [some 2, some 1, some 0, some 3, some 4] [[b3], blk a14, blk a16, blk a5, M] rfl
 replace hs_p1 := hs_p1.sub hsu
 replace hs_p0_0 := hs_p0_0.sub hsu
 replace ho14 := ho14.sub hsu
 replace ho16 := ho16.sub hsu
 replace ho5 := ho5.sub hsu
 replace hms := hpk
 replace hfr := hfr.pick [some 2, some 1, some 0, some 3] [[b3], blk a14, blk a16, blk a5] rfl
 clear hpk hsu
 obtain ⟨d18, hd18, h18⟩ := bind_some h
 obtain ⟨m18, hd18⟩ := loop_some hd18
 refine c_loop (loop_rule hmx (σ := Nat × (List Int) × (List Int) × Int) (fun s => match s with | (_, d15_l18, d17_l18, t40__s40_l18) => [(1, .slice a_p1 (p1).length c_p1), (2, Vp b3 0), (4, .slice a14 (d15_l18).length c14), (5, .slice a16 (d17_l18).length c16), (38, .slice a5 (x12).length c5), (39, Vi ((x12).length : Int)), (40, Vi t40__s40_l18)]) (fun s w' => match s with | (m, d15_l18, d17_l18, t40__s40_l18) => loopN (leastcode_solve_L18 p0_0 p0_1 p1 x12) m (d15_l18, d17_l18, t40__s40_l18) = some d18 ∧ Ev [] w w' ∧ MS w' [[b3], blk a14, blk a16, blk a5, M] ∧ FR w.heap.size [[b3], blk a14, blk a16, blk a5] ∧ SlR (eSl (eInt .i64)) w' (fl [[b3], blk a14, blk a16, blk a5, M]) a_p1 c_p1 p1 ∧ SlR (eIt4) w' (fl [[b3], blk a14, blk a16, blk a5, M]) a_p0_0 c_p0_0 p0_0 ∧ w'.heap[b3]? = some (.cells #[.slice a_p0_0 (p0_0).length c_p0_0, Vi p0_1] 50 (0, 0)) ∧ OwnS (eInt .i64) 3 w' (fl [[b3], blk a14, blk a16, blk a5, M]) a14 c14 d15_l18 ∧ OwnS (eInt .i64) 3 w' (fl [[b3], blk a14, blk a16, blk a5, M]) a16 c16 d17_l18 ∧ OwnS (eInt .i64) 3 w' (fl [[b3], blk a14, blk a16, blk a5, M]) a5 c5 x12) (fun s => s.1) (m18, (List.replicate (Int.toNat ((x12).length : Int)) 0 : List Int), (List.replicate (Int.toNat ((x12).length : Int)) 0 : List Int), 0) ⟨rfl, rfl, rfl, rfl, rfl, rfl, rfl, trivial⟩ ⟨hd18, hev, hms, hfr, hs_p1, hs_p0_0, hb3, ho14, ho16, ho5⟩ ?_)
 rintro ⟨m18, d15_l18, d17_l18, t40__s40_l18⟩ J wl18 ⟨hn18, hev, hms, hfr, hs_p1, hs_p0_0, hb3, ho14, ho16, ho5⟩
 rcases m18 with _ | m18
 · exact (loopN_zero hn18).elim
 obtain ⟨t18, h, hn18⟩ := bind_some hn18
 refine c_sp (x_u 1 [(41, .bool (decide (t40__s40_l18 < ((x12).length : Int))))] (x_ek (c_nm [(1, .slice a_p1 (p1).length c_p1), (2, Vp b3 0), (4, .slice a14 (d15_l18).length c14), (5, .slice a16 (d17_l18).length c16), (38, .slice a5 (x12).length c5), (39, Vi ((x12).length : Int)), (40, Vi t40__s40_l18), (41, .bool (decide (t40__s40_l18 < ((x12).length : Int))))] (fun J => ?_))))
 refine c_seq (c_if (decide (t40__s40_l18 < ((x12).length : Int))) rfl h (fun h => ?_) (fun h => ?_))
 · refine c_skip (k_then (c_seq (c_block (c_sp ?_))))
   obtain ⟨x20, hx20, h⟩ := bind_some h
   obtain ⟨g20, cs20, ha20, hr20, hc20, hR⟩ := own_index (Mo := []) tsl22 ho5 hx20
   obtain rfl := hR
   refine x_indexAddr (xv := .slice a5 (x12).length c5) (yv := Vi t40__s40_l18) (.pointer (some ⟨g20, (Int.toNat t40__s40_l18) * (eInt .i64).n, none⟩)) rfl rfl rfl rfl hr20 (x_load (xv := .pointer (some ⟨g20, (Int.toNat t40__s40_l18) * (eInt .i64).n, none⟩)) (Vi x20) rfl rfl rfl (reads_cell0 tcell3 hc20 (fun _ h => by cases h)) ?_)
   refine x_u 1 [(10, Vi x20)] (x_ek (c_seq (c_sp (x_fieldAddr (xv := Vp b3 0) (Vp b3 0) rfl rfl rfl (reads_field tfld50_0 _ _) (x_load (xv := Vp b3 0) (.slice a_p0_0 (p0_0).length c_p0_0) rfl rfl rfl (reads_box tcell36 hb3 nn 0 _ rfl) ?_)))))
   refine x_len (vs := [.slice a_p0_0 (p0_0).length c_p0_0]) (Vi ((p0_0).length : Int)) rfl rfl rfl (reads_len tsl36 _ _ _ _ _) (x_u 1 [(47, Vi 0)] (x_ek (c_block ?_)))
   obtain ⟨d23, hd23, h23⟩ := bind_some h
   obtain ⟨m23, hd23⟩ := loop_some hd23
   refine c_loop (loop_rule hmx (σ := Nat × (List Int) × Int) (fun s => match s with | (_, d15_l23, t47__s47_l23) => [(1, .slice a_p1 (p1).length c_p1), (2, Vp b3 0), (4, .slice a14 (d15_l23).length c14), (5, .slice a16 (d17_l18).length c16), (10, Vi x20), (38, .slice a5 (x12).length c5), (39, Vi ((x12).length : Int)), (40, Vi t40__s40_l18), (46, Vi ((p0_0).length : Int)), (47, Vi t47__s47_l23)]) (fun s w' => match s with | (m, d15_l23, t47__s47_l23) => loopN (leastcode_solve_L23 p0_0 p1 d17_l18 x20) m (d15_l23, t47__s47_l23) = some d23 ∧ Ev [] w w' ∧ MS w' [[b3], blk a14, blk a16, blk a5, M] ∧ FR w.heap.size [[b3], blk a14, blk a16, blk a5] ∧ SlR (eSl (eInt .i64)) w' (fl [[b3], blk a14, blk a16, blk a5, M]) a_p1 c_p1 p1 ∧ SlR (eIt4) w' (fl [[b3], blk a14, blk a16, blk a5, M]) a_p0_0 c_p0_0 p0_0 ∧ w'.heap[b3]? = some (.cells #[.slice a_p0_0 (p0_0).length c_p0_0, Vi p0_1] 50 (0, 0)) ∧ OwnS (eInt .i64) 3 w' (fl [[b3], blk a14, blk a16, blk a5, M]) a14 c14 d15_l23 ∧ OwnS (eInt .i64) 3 w' (fl [[b3], blk a14, blk a16, blk a5, M]) a16 c16 d17_l18 ∧ OwnS (eInt .i64) 3 w' (fl [[b3], blk a14, blk a16, blk a5, M]) a5 c5 x12) (fun s => s.1) (m23, d15_l18, 0) ⟨rfl, rfl, rfl, rfl, rfl, rfl, rfl, rfl, rfl, rfl, trivial⟩ ⟨hd23, hev, hms, hfr, hs_p1, hs_p0_0, hb3, ho14, ho16, ho5⟩ ?_)
   rintro ⟨m23, d15_l23, t47__s47_l23⟩ J wl23 ⟨hn23, hev, hms, hfr, hs_p1, hs_p0_0, hb3, ho14, ho16, ho5⟩
   rcases m23 with _ | m23
   · exact (loopN_zero hn23).elim
   obtain ⟨t23, h, hn23⟩ := bind_some hn23
   refine c_sp (x_u 1 [(48, .bool (decide (t47__s47_l23 < ((p0_0).length : Int))))] (x_ek (c_nm [(1, .slice a_p1 (p1).length c_p1), (2, Vp b3 0), (4, .slice a14 (d15_l23).length c14), (5, .slice a16 (d17_l18).length c16), (10, Vi x20), (38, .slice a5 (x12).length c5), (39, Vi ((x12).length : Int)), (40, Vi t40__s40_l18), (46, Vi ((p0_0).length : Int)), (47, Vi t47__s47_l23), (48, .bool (decide (t47__s47_l23 < ((p0_0).length : Int))))] (fun J => ?_))))
   refine c_seq (c_if (decide (t47__s47_l23 < ((p0_0).length : Int))) rfl h (fun h => ?_) (fun h => ?_))
   · refine c_skip (k_then (c_seq (c_block (c_sp (x_u 2 [(49, Vi t47__s47_l23), (11, Vi t47__s47_l23)] ?_)))))
     refine x_ek (c_sp (x_u 2 [(50, .slice a_p1 (p1).length c_p1), (51, Vi t47__s47_l23)] ?_))
     obtain ⟨x25, hx25, h⟩ := bind_some h
     obtain ⟨ad25, cs25, hr25, hc25, hR⟩ := reads_index (Mo := []) tsl57 hs_p1 hx25
     obtain ⟨a26, c26, rfl, hs26⟩ := hR
     refine x_indexAddr (xv := .slice a_p1 (p1).length c_p1) (yv := Vi t47__s47_l23) (.pointer (some ad25)) rfl rfl rfl rfl hr25 (x_load (xv := .pointer (some ad25)) (.slice a26 (x25).length c26) rfl rfl rfl (reads_cell0 tcell22 hc25 (fun _ h => by cases h)) ?_)
     refine x_u 1 [(54, Vi x20)] ?_
     obtain ⟨x29, hx29, h⟩ := bind_some h
     obtain ⟨ad29, cs29, hr29, hc29, hR⟩ := reads_index (Mo := []) tsl22 hs26 hx29
     obtain rfl := hR
     refine x_indexAddr (xv := .slice a26 (x25).length c26) (yv := Vi x20) (.pointer (some ad29)) rfl rfl rfl rfl hr29 (x_load (xv := .pointer (some ad29)) (Vi x29) rfl rfl rfl (reads_cell0 tcell3 hc29 (fun _ h => by cases h)) ?_)
     refine x_u 1 [(12, Vi x29)] (x_ek (c_sp (x_u 2 [(57, Vi x29), (58, .bool (decide (x29 > 0)))] (x_ek (c_if (decide (x29 > 0)) rfl h (fun h => ?_) (fun h => ?_))))))
     · refine c_drawn [] [(0, false), (1, false), (2, false), (3, false), (4, false), (5, false), (6, false), (7, false), (8, false), (9, false), (10, false), (11, false), (12, false), (13, false), (14, false), (15, true)] _ (by kernel_rfl) rfl ?_
       have hst := Stp.ext (ls := [[b3], blk a14, blk a16, blk a5, M]) (Ev.drew wl23)
       replace hs_p1 := hs_p1.step hst
       replace hb3 := (Ev.drew wl23).box hb3 nn
       replace hs_p0_0 := hs_p0_0.step hst
       replace ho14 := ho14.step hst (Ev.drew wl23) nn2
       replace ho16 := ho16.step hst (Ev.drew wl23) nn2
       replace ho5 := ho5.step hst (Ev.drew wl23) nn2
       replace hms := hms.ev (Ev.drew wl23)
       replace hev := hev.ext (Ev.drew wl23)
       refine x_u 4 [(59, .slice a14 (d15_l23).length c14), (60, Vi x20), (61, .slice a14 (d15_l23).length c14), (62, Vi x20)] ?_
       obtain ⟨x31, hx31, h⟩ := bind_some h
       obtain ⟨g31, cs31, ha31, hr31, hc31, hR⟩ := own_index (Mo := []) tsl22 ho14 hx31
       obtain rfl := hR
       refine x_indexAddr (xv := .slice a14 (d15_l23).length c14) (yv := Vi x20) (.pointer (some ⟨g31, (Int.toNat x20) * (eInt .i64).n, none⟩)) rfl rfl rfl rfl hr31 (x_load (xv := .pointer (some ⟨g31, (Int.toNat x20) * (eInt .i64).n, none⟩)) (Vi x31) rfl rfl rfl (reads_cell0 tcell3 hc31 (fun _ h => by cases h)) ?_)
       refine x_u 2 [(65, .slice a16 (d17_l18).length c16), (66, Vi t47__s47_l23)] ?_
       obtain ⟨x33, hx33, h⟩ := bind_some h
       obtain ⟨g33, cs33, ha33, hr33, hc33, hR⟩ := own_index (Mo := []) tsl22 ho16 hx33
       obtain rfl := hR
       refine x_indexAddr (xv := .slice a16 (d17_l18).length c16) (yv := Vi t47__s47_l23) (.pointer (some ⟨g33, (Int.toNat t47__s47_l23) * (eInt .i64).n, none⟩)) rfl rfl rfl rfl hr33 (x_load (xv := .pointer (some ⟨g33, (Int.toNat t47__s47_l23) * (eInt .i64).n, none⟩)) (Vi x33) rfl rfl rfl (reads_cell0 tcell3 hc33 (fun _ h => by cases h)) ?_)
       refine x_u 3 [(69, Vi x29), (70, Vi (IntKind.i64.wrap (x33 + x29))), (71, Vi (IntKind.i64.wrap ((IntKind.i64.wrap (x33 + x29)) - 1)))] (x_max (vs := [Vi x31, Vi (IntKind.i64.wrap ((IntKind.i64.wrap (x33 + x29)) - 1))]) (Vi (if (IntKind.i64.wrap ((IntKind.i64.wrap (x33 + x29)) - 1)) > x31 then (IntKind.i64.wrap ((IntKind.i64.wrap (x33 + x29)) - 1)) else x31)) rfl rfl rfl (fun _ _ => rfl) ?_)
       obtain ⟨x35, hx35, h⟩ := bind_some h
       obtain ⟨g35, cs35, ha35, hr35, hc35, hR⟩ := own_index (Mo := []) tsl22 ho14 hx35
       obtain rfl := hR
       refine x_indexAddr (xv := .slice a14 (d15_l23).length c14) (yv := Vi x20) (.pointer (some ⟨g35, (Int.toNat x20) * (eInt .i64).n, none⟩)) rfl rfl rfl rfl hr35 ?_
       have hxs36_32 := hx31
       obtain ⟨w37, hr37, he37, ho37⟩ := own_storeE ha35 (y := if (IntKind.i64.wrap ((IntKind.i64.wrap (x33 + x29)) - 1)) > x31 then (IntKind.i64.wrap ((IntKind.i64.wrap (x33 + x29)) - 1)) else x31) 0 (Vi (if (IntKind.i64.wrap ((IntKind.i64.wrap (x33 + x29)) - 1)) > x31 then (IntKind.i64.wrap ((IntKind.i64.wrap (x33 + x29)) - 1)) else x31)) tcell3 ho14 (mem_flat 1 rfl) hx35 rfl rfl (fun _ _ _ hR => set_int hR)
       refine x_store w37 (xv := .pointer (some ⟨g35, (Int.toNat x20) * (eInt .i64).n, none⟩)) (yv := Vi (if (IntKind.i64.wrap ((IntKind.i64.wrap (x33 + x29)) - 1)) > x31 then (IntKind.i64.wrap ((IntKind.i64.wrap (x33 + x29)) - 1)) else x31)) rfl rfl rfl rfl hr37 (inl1 ?_)
       have hst := Stp.ev' (ls := [[b3], blk a14, blk a16, blk a5, M]) he37 (mem_flat 1 rfl)
       replace hs_p1 := hs_p1.step hst
       replace hb3 := he37.box hb3 (hms.apart 0 1 rfl rfl rfl _ mem1)
       replace hs_p0_0 := hs_p0_0.step hst
       replace ho16 := ho16.step hst he37 (hms.apart 2 1 rfl rfl rfl)
       replace ho5 := ho5.step hst he37 (hms.apart 3 1 rfl rfl rfl)
       replace hms := hms.ev he37
       replace hev := hev.then he37 (fun b hb => .inr (hfr.at 1 rfl b hb))
       replace ho14 := ho37
       have hsl : (Value.slice a14 (d15_l23).length c14) = (Value.slice a14 ((d15_l23.set (Int.toNat x20) (if (IntKind.i64.wrap ((IntKind.i64.wrap (x33 + x29)) - 1)) > x31 then (IntKind.i64.wrap ((IntKind.i64.wrap (x33 + x29)) - 1)) else x31))).length c14) := by first | (rw [List.length_set]; done) | simp only [List.length_set]
       try rw [hsl]
       clear hsl
       obtain ⟨_, hxs36_32⟩ : ∃ y, idx (d15_l23.set (Int.toNat x20) (if (IntKind.i64.wrap ((IntKind.i64.wrap (x33 + x29)) - 1)) > x31 then (IntKind.i64.wrap ((IntKind.i64.wrap (x33 + x29)) - 1)) else x31)) x20 = some y := idx_set_any hxs36_32 _ _
       refine x_end rfl (k_block (k_then (c_nm [(1, .slice a_p1 (p1).length c_p1), (2, Vp b3 0), (4, .slice a14 ((d15_l23.set (Int.toNat x20) (if (IntKind.i64.wrap ((IntKind.i64.wrap (x33 + x29)) - 1)) > x31 then (IntKind.i64.wrap ((IntKind.i64.wrap (x33 + x29)) - 1)) else x31))).length c14), (5, .slice a16 (d17_l18).length c16), (10, Vi x20), (38, .slice a5 (x12).length c5), (39, Vi ((x12).length : Int)), (40, Vi t40__s40_l18), (46, Vi ((p0_0).length : Int)), (47, Vi t47__s47_l23)] (fun J => ?_))))
       refine c_plain (x_u 2 [(74, Vi (IntKind.i64.wrap (t47__s47_l23 + 1))), (47, Vi (IntKind.i64.wrap (t47__s47_l23 + 1)))] (x_end rfl ?_))
       obtain rfl := some_inj h
       exact k_then ⟨(m23, (d15_l23.set (Int.toNat x20) (if (IntKind.i64.wrap ((IntKind.i64.wrap (x33 + x29)) - 1)) > x31 then (IntKind.i64.wrap ((IntKind.i64.wrap (x33 + x29)) - 1)) else x31)), IntKind.i64.wrap (t47__s47_l23 + 1)), ⟨rfl, rfl, rfl, rfl, rfl, rfl, rfl, rfl, rfl, rfl, trivial⟩, ⟨hn23, hev, hms, hfr, hs_p1, hs_p0_0, hb3, ho14, ho16, ho5⟩, Nat.lt_succ_self _⟩
     refine c_skip (k_block (k_then (c_nm [(1, .slice a_p1 (p1).length c_p1), (2, Vp b3 0), (4, .slice a14 (d15_l23).length c14), (5, .slice a16 (d17_l18).length c16), (10, Vi x20), (38, .slice a5 (x12).length c5), (39, Vi ((x12).length : Int)), (40, Vi t40__s40_l18), (46, Vi ((p0_0).length : Int)), (47, Vi t47__s47_l23)] (fun J => ?_))))
     refine c_plain (x_u 2 [(74, Vi (IntKind.i64.wrap (t47__s47_l23 + 1))), (47, Vi (IntKind.i64.wrap (t47__s47_l23 + 1)))] (x_end rfl ?_))
     obtain rfl := some_inj h
     exact k_then ⟨(m23, d15_l23, IntKind.i64.wrap (t47__s47_l23 + 1)), ⟨rfl, rfl, rfl, rfl, rfl, rfl, rfl, rfl, rfl, rfl, trivial⟩, ⟨hn23, hev, hms, hfr, hs_p1, hs_p0_0, hb3, ho14, ho16, ho5⟩, Nat.lt_succ_self _⟩
   refine c_exit (k_then_exit ?_)
   obtain rfl := some_inj h
   have hy := some_inj hn23
   subst hy
   replace h := h23
   refine k_then_exit (k_block_in (k_then (c_nm [(1, .slice a_p1 (p1).length c_p1), (2, Vp b3 0), (4, .slice a14 (d15_l23).length c14), (5, .slice a16 (d17_l18).length c16), (10, Vi x20), (38, .slice a5 (x12).length c5), (39, Vi ((x12).length : Int)), (40, Vi t40__s40_l18)] (fun J => ?_))))
   refine c_seq (c_drawn [] [(0, false), (1, false), (2, false), (3, false), (4, false), (5, false), (6, false), (7, false), (8, false), (9, false), (10, false), (11, false), (12, true), (13, false), (14, false), (15, false), (16, false), (17, false)] _ (by kernel_rfl) rfl ?_)
   have hst := Stp.ext (ls := [[b3], blk a14, blk a16, blk a5, M]) (Ev.drew wl23)
   replace hs_p1 := hs_p1.step hst
   replace hb3 := (Ev.drew wl23).box hb3 nn
   replace hs_p0_0 := hs_p0_0.step hst
   replace ho14 := ho14.step hst (Ev.drew wl23) nn2
   replace ho16 := ho16.step hst (Ev.drew wl23) nn2
   replace ho5 := ho5.step hst (Ev.drew wl23) nn2
   replace hms := hms.ev (Ev.drew wl23)
   replace hev := hev.ext (Ev.drew wl23)
   refine x_u 2 [(76, .slice a14 (d15_l23).length c14), (77, Vi x20)] ?_
   obtain ⟨x38, hx38, h⟩ := bind_some h
   obtain ⟨g38, cs38, ha38, hr38, hc38, hR⟩ := own_index (Mo := []) tsl22 ho14 hx38
   obtain rfl := hR
   refine x_indexAddr (xv := .slice a14 (d15_l23).length c14) (yv := Vi x20) (.pointer (some ⟨g38, (Int.toNat x20) * (eInt .i64).n, none⟩)) rfl rfl rfl rfl hr38 (x_load (xv := .pointer (some ⟨g38, (Int.toNat x20) * (eInt .i64).n, none⟩)) (Vi x38) rfl rfl rfl (reads_cell0 tcell3 hc38 (fun _ h => by cases h)) ?_)
   refine x_fieldAddr (xv := Vp b3 0) (Vp b3 0) rfl rfl rfl (reads_field tfld50_0 _ _) (x_load (xv := Vp b3 0) (.slice a_p0_0 (p0_0).length c_p0_0) rfl rfl rfl (reads_box tcell36 hb3 nn 0 _ rfl) (x_u 1 [(82, Vi x20)] ?_))
   obtain ⟨x40, hx40, h⟩ := bind_some h
   obtain ⟨ad40, cs40, hr40, hc40, hR⟩ := reads_index (Mo := []) tsl36 hs_p0_0 hx40
   obtain ⟨_, _, rfl, rfl, ⟨_, _, rfl, rfl, ⟨_, _, rfl, rfl, rfl⟩⟩⟩ := hR
   refine x_indexAddr (xv := .slice a_p0_0 (p0_0).length c_p0_0) (yv := Vi x20) (.pointer (some ad40)) rfl rfl rfl rfl hr40 (x_fieldAddr (xv := .pointer (some ad40)) (.pointer (some (Addr.add ad40 2))) rfl rfl rfl (reads_field tfld76_2 _ _) (x_load (xv := .pointer (some (Addr.add ad40 2))) (Vi x40.2.2.1) rfl rfl rfl (reads_cell tcell3 hc40 (fun _ h => by cases h) 2 _ rfl) ?_))
   refine x_fieldAddr (xv := Vp b3 0) (Vp b3 1) rfl rfl rfl (reads_field tfld50_1 _ _) (x_load (xv := Vp b3 1) (Vi p0_1) rfl rfl rfl (reads_box tcell3 hb3 nn 1 _ rfl) ?_)
   obtain ⟨x42, hx, h⟩ := bind_some h
   have hcall := code_Next_w x38 x40.2.2.1 p0_1 _ (wl23).drew hx
   refine x_call 111 #[] #[] [Vi x38, Vi x40.2.2.1, Vi p0_1] _ rfl rfl rfl rfl hcall ?_
   rintro v w43 ⟨rfl, he43⟩
   clear hcall hx
   refine inl1 ?_
   have hst := Stp.ext (ls := [[b3], blk a14, blk a16, blk a5, M]) he43
   replace hs_p1 := hs_p1.step hst
   replace hb3 := he43.box hb3 nn
   replace hs_p0_0 := hs_p0_0.step hst
   replace ho14 := ho14.step hst he43 nn2
   replace ho16 := ho16.step hst he43 nn2
   replace ho5 := ho5.step hst he43 nn2
   replace hms := hms.ev he43
   replace hev := hev.ext he43
   refine x_u 5 [(75, .tuple #[Vi x42.1, Vi x42.2]), (89, Vi x42.1), (90, Vi x42.2), (13, Vi x42.1), (14, Vi x42.2)] (x_ek (c_nm [(1, .slice a_p1 (p1).length c_p1), (2, Vp b3 0), (4, .slice a14 (d15_l23).length c14), (5, .slice a16 (d17_l18).length c16), (10, Vi x20), (13, Vi x42.1), (14, Vi x42.2), (38, .slice a5 (x12).length c5), (39, Vi ((x12).length : Int)), (40, Vi t40__s40_l18)] (fun J => ?_)))
   refine c_seq (c_sp (x_u 2 [(91, Vi x42.2), (92, .bool (x42.2 != 0))] (x_ek (c_if (x42.2 != 0) rfl h (fun h => ?_) (fun h => ?_)))))
   · refine c_sp (x_u 4 [(93, Vi x42.2), (4, .slice none 0 0), (5, .slice none 0 0), (6, Vi x42.2)] (x_ek (c_ret (k_then_ret (k_block_ret ?_)))))
     refine k_then_ret ?_
     obtain rfl := some_inj h
     have hy := some_inj hn18
     subst hy
     replace h := h18
     refine k_then_ret (k_block_ret (k_then_ret (r_ret (r_vals [.slice none 0 0, .slice none 0 0, Vi x42.2] ⟨rfl, rfl, rfl, trivial⟩ ?_))))
     obtain rfl := some_inj h
     have hmr := hms.pick [none, none, some 4] [blk none, blk none, M] rfl
     have hfe := hfr.pick [none, none] [blk none, blk none] rfl
     exact ⟨none, 0, none, 0, rfl, hev, hmr, hfe, OwnS.nil _ _ _ _, OwnS.nil _ _ _ _⟩
   refine c_skip (k_then (c_plain (x_u 3 [(94, .slice a16 (d17_l18).length c16), (95, Vi x20), (96, Vi x42.1)] ?_)))
   obtain ⟨x44, hx44, h⟩ := bind_some h
   obtain ⟨g44, cs44, ha44, hr44, hc44, hR⟩ := own_index (Mo := []) tsl22 ho16 hx44
   obtain rfl := hR
   refine x_indexAddr (xv := .slice a16 (d17_l18).length c16) (yv := Vi x20) (.pointer (some ⟨g44, (Int.toNat x20) * (eInt .i64).n, none⟩)) rfl rfl rfl rfl hr44 ?_
   obtain ⟨w46, hr46, he46, ho46⟩ := own_storeE ha44 (y := x42.1) 0 (Vi x42.1) tcell3 ho16 (mem_flat 2 rfl) hx44 rfl rfl (fun _ _ _ hR => set_int hR)
   refine x_store w46 (xv := .pointer (some ⟨g44, (Int.toNat x20) * (eInt .i64).n, none⟩)) (yv := Vi x42.1) rfl rfl rfl rfl hr46 (inl1 ?_)
   have hst := Stp.ev' (ls := [[b3], blk a14, blk a16, blk a5, M]) he46 (mem_flat 2 rfl)
   replace hs_p1 := hs_p1.step hst
   replace hb3 := he46.box hb3 (hms.apart 0 2 rfl rfl rfl _ mem1)
   replace hs_p0_0 := hs_p0_0.step hst
   replace ho14 := ho14.step hst he46 (hms.apart 1 2 rfl rfl rfl)
   replace ho5 := ho5.step hst he46 (hms.apart 3 2 rfl rfl rfl)
   replace hms := hms.ev he46
   replace hev := hev.then he46 (fun b hb => .inr (hfr.at 2 rfl b hb))
   replace ho16 := ho46
   have hsl : (Value.slice a16 (d17_l18).length c16) = (Value.slice a16 ((d17_l18.set (Int.toNat x20) x42.1)).length c16) := by first | (rw [List.length_set]; done) | simp only [List.length_set]
   try rw [hsl]
   clear hsl
   refine x_end rfl (k_block (k_then (c_plain (x_u 2 [(98, Vi (IntKind.i64.wrap (t40__s40_l18 + 1))), (40, Vi (IntKind.i64.wrap (t40__s40_l18 + 1)))] (x_end rfl ?_)))))
   obtain rfl := some_inj h
   exact k_then ⟨(m18, d15_l23, (d17_l18.set (Int.toNat x20) x42.1), IntKind.i64.wrap (t40__s40_l18 + 1)), ⟨rfl, rfl, rfl, rfl, rfl, rfl, rfl, trivial⟩, ⟨hn18, hev, hms, hfr, hs_p1, hs_p0_0, hb3, ho14, ho16, ho5⟩, Nat.lt_succ_self _⟩
 refine c_exit (k_then_exit ?_)
 obtain rfl := some_inj h
 have hy := some_inj hn18
 subst hy
 replace h := h18
 refine k_then_exit (k_block_in (k_then (c_nm [(4, .slice a14 (d15_l18).length c14), (5, .slice a16 (d17_l18).length c16)] (fun J => ?_))))
 refine c_sp (x_u 5 [(99, .slice a14 (d15_l18).length c14), (100, .slice a16 (d17_l18).length c16), (4, .slice a14 (d15_l18).length c14), (5, .slice a16 (d17_l18).length c16), (6, Vi 0)] (x_ek (c_ret (r_ret (r_vals [.slice a14 (d15_l18).length c14, .slice a16 (d17_l18).length c16, Vi 0] ⟨rfl, rfl, rfl, trivial⟩ ?_)))))
 obtain rfl := some_inj h
 have hmr := hms.pick [some 1, some 2, some 4] [blk a14, blk a16, M] rfl
 have hsu := pick_sub (ls := [[b3], blk a14, blk a16, blk a5, M]) [some 1, some 2, some 4] [blk a14, blk a16, M] rfl
 have hfe := hfr.pick [some 1, some 2] [blk a14, blk a16] rfl
 exact ⟨a14, c14, a16, c16, rfl, hev, hmr, hfe, ho14.sub hsu, ho16.sub hsu⟩
def leastcode_Least_L22 (x13 : (List Int) × (List Int) × Int) (s : Int × Int) : Option (Step (Int × Int) Int) :=
match s with
| (e20_l22_0, t35__s35_l22) =>
(if (decide (t35__s35_l22 < ((x13.2.1).length : Int))) = true then
((idx x13.2.1 t35__s35_l22).bind fun x24 =>
((code_Steps x24).bind fun x26 =>
some (.next (if x26.1 > e20_l22_0 then x26.1 else e20_l22_0, IntKind.i64.wrap (t35__s35_l22 + 1)))))
else
some (.done e20_l22_0))
def leastcode_Least (p0_0 : List (Int × Int × Int × Int)) (p0_1 : Int) : Option ((Int × (List Int)) × Int) :=
((job_Valid p0_0 p0_1).bind fun x7 =>
(if (x7 != 0) = true then
some ((0, []), x7)
else
((leastcode_relations p0_0 p0_1).bind fun x10 =>
((leastcode_solve p0_0 p0_1 x10).bind fun x13 =>
(if (x13.2.2 != 0) = true then
some ((0, []), x13.2.2)
else
((loop (leastcode_Least_L22 x13) (0, 0)).bind fun d => match d with
| e20_x22_0 => some ((e20_x22_0, x13.2.1), 0)))))))
theorem leastcode_Least_w (a_p0_0 : Option Addr) (c_p0_0 : Nat) (p0_0 : List (Int × Int × Int × Int)) (p0_1 : Int) (r : (Int × (List Int)) × Int) (w : World) (M : List Nat) (hms : MS w [M]) (hs_p0_0 : SlR (eIt4) w (fl [M]) a_p0_0 c_p0_0 p0_0) (h : leastcode_Least p0_0 p0_1 = some r) : CallVC Tryz.prog 51 [.agg #[Vl a_p0_0 p0_0 c_p0_0, Vi p0_1]] w fun v w' => ∃ (a0' : Option Addr), ∃ (c0' : Nat), v = .tuple #[.agg #[Vi r.1.1, Vl a0' r.1.2 c0'], Vi r.2] ∧ Ev [] w w' ∧ MS w' [blk a0', M] ∧ FR w.heap.size [blk a0'] ∧ OwnS (eInt .i64) 3 w' (fl [blk a0', M]) a0' c0' r.1.2 := by
 refine calls_vc hmx Tryz.func51 (by kernel_rfl) rfl (rs := [.cell 2 52, .tmp 3]) rfl (by kernel_rfl) (args := [.agg #[Vl a_p0_0 p0_0 c_p0_0, Vi p0_1]]) rfl ?_
 have hev : Ev [] w w := Ev.refl _ _
 have hfr : FR w.heap.size [] := FR.nil _
 refine c_sp (x_box (xv := .agg #[Vl a_p0_0 p0_0 c_p0_0, Vi p0_1]) rfl rfl rfl (fun b2 w2 hq2 hb2 he2 hz2 => ?_))
 replace hb2 : w2.heap[b2]? = some (.cells #[Vl a_p0_0 p0_0 c_p0_0, Vi p0_1] 50 (0, 0)) := hb2
 refine inl1 ?_
 have hst := Stp.box (ls := [M]) he2 hq2
 replace hs_p0_0 := hs_p0_0.step hst
 replace hms := hms.box he2 hq2 hb2
 replace hfr := hfr.box hev.size hq2
 replace hev := hev.ext he2
 refine x_alloc (z := .agg #[Vi 0, .slice none 0 0]) rfl rfl (by kernel_rfl) (fun b4 w4 hq4 hb4 he4 hz4 => ?_)
 replace hb4 : w4.heap[b4]? = some (.cells #[Vi 0, .slice none 0 0] 52 (0, 0)) := hb4
 refine inl1 ?_
 have hst := Stp.box (ls := [[b2], M]) he4 hq4
 replace hs_p0_0 := hs_p0_0.step hst
 replace hb2 := he4.box hb2 nn
 replace hms := hms.box he4 hq4 hb4
 replace hfr := hfr.box hev.size hq4
 replace hev := hev.ext he4
 refine x_u 1 [(3, Vi 0)] (x_ek (c_seq (c_sp (x_load (xv := Vp b2 0) (.agg #[Vl a_p0_0 p0_0 c_p0_0, Vi p0_1]) rfl rfl rfl (reads_boxagg 0 [Vl a_p0_0 p0_0 c_p0_0, Vi p0_1] tagg50 hb2 nn rfl) ?_))))
 obtain ⟨x7, hx, h⟩ := bind_some h
 have hcall := job_Valid_w a_p0_0 c_p0_0 p0_0 p0_1 _ w4 (fl [[b4], [b2], M]) (MS.fold (P := []) hms) (hs_p0_0.sub fl1) hx
 refine x_call 46 #[] #[] [.agg #[Vl a_p0_0 p0_0 c_p0_0, Vi p0_1]] _ rfl rfl rfl rfl hcall ?_
 rintro v w8 ⟨rfl, he8⟩
 clear hcall hx
 refine inl1 ?_
 have hst := Stp.ext (ls := [[b4], [b2], M]) he8
 replace hs_p0_0 := hs_p0_0.step hst
 replace hb2 := he8.box hb2 nn
 replace hb4 := he8.box hb4 nn
 replace hms := hms.ev he8
 replace hev := hev.ext he8
 refine x_u 1 [(4, Vi x7)] (x_ek (c_sp (x_u 2 [(15, Vi x7), (16, .bool (x7 != 0))] (x_ek (c_if (x7 != 0) rfl h (fun h => ?_) (fun h => ?_))))))
 · refine c_sp (x_build (vs := []) (.agg #[Vi 0, .slice none 0 0]) rfl rfl rfl (fun _ _ => by kernel_rfl) ?_)
   refine x_u 1 [(18, Vi x7)] ?_
   obtain ⟨w9, hr9, hb9, he9⟩ := store_boxagg 0 [Vi 0, .slice none 0 0] #[Vi 0, .slice none 0 0] tagg52 hb4 rfl rfl rfl
   refine x_store w9 (xv := Vp b4 0) (yv := .agg #[Vi 0, .slice none 0 0]) rfl rfl rfl rfl hr9 (inl1 ?_)
   replace hms := hms.ev he9
   replace hev := hev.then he9 (fun b hb => .inr (hfr.at 0 rfl b hb))
   replace hb4 := hb9
   refine x_u 1 [(3, Vi x7)] (x_ek (c_ret (k_then_ret (r_ret (r_vals [.agg #[Vi 0, .slice none 0 0], Vi x7] ⟨⟨_, rfl, loadVar_of_reads (reads_boxagg (Mo := []) 0 [Vi 0, .slice none 0 0] tagg52 hb4 nn rfl)⟩, rfl, trivial⟩ ?_)))))
   obtain rfl := some_inj h
   have hmr := hms.pick [none, some 2] [blk none, M] rfl
   have hfe := hfr.pick [none] [blk none] rfl
   exact ⟨none, 0, rfl, hev, hmr, hfe, OwnS.nil _ _ _ _⟩
 refine c_skip (k_then (c_seq (c_drawn [] [(0, false), (1, false), (2, false), (3, true), (4, false), (5, false), (6, false), (7, false), (8, false), (9, false), (10, false)] _ (by kernel_rfl) rfl ?_)))
 have hst := Stp.ext (ls := [[b4], [b2], M]) (Ev.drew w8)
 replace hs_p0_0 := hs_p0_0.step hst
 replace hb2 := (Ev.drew w8).box hb2 nn
 replace hb4 := (Ev.drew w8).box hb4 nn
 replace hms := hms.ev (Ev.drew w8)
 replace hev := hev.ext (Ev.drew w8)
 refine x_load (xv := Vp b2 0) (.agg #[Vl a_p0_0 p0_0 c_p0_0, Vi p0_1]) rfl rfl rfl (reads_boxagg 0 [Vl a_p0_0 p0_0 c_p0_0, Vi p0_1] tagg50 hb2 nn rfl) (x_load (xv := Vp b2 0) (.agg #[Vl a_p0_0 p0_0 c_p0_0, Vi p0_1]) rfl rfl rfl (reads_boxagg 0 [Vl a_p0_0 p0_0 c_p0_0, Vi p0_1] tagg50 hb2 nn rfl) ?_)
 obtain ⟨x10, hx, h⟩ := bind_some h
 have hpk : MS (w8).drew ([] ++ [[b4], [b2], M]) := hms.pick [some 0, some 1, some 2] _ rfl
 have hsb0 : ∀ x ∈ fl ([] ++ [[b4], [b2], M]), x ∈ fl [[b4], [b2], M] := pick_sub [some 0, some 1, some 2] _ rfl
 have hsb : ∀ x ∈ fl ([] ++ [(fl [[b4], [b2], M])]), x ∈ fl [[b4], [b2], M] := fun x hx => hsb0 x (fl_unfold x hx)
 have hcall := leastcode_relations_w a_p0_0 c_p0_0 p0_0 p0_1 _ (w8).drew (fl [[b4], [b2], M]) (MS.fold (P := []) hpk) (hs_p0_0.sub hsb) hx
 refine x_call 80 #[] #[] [.agg #[Vl a_p0_0 p0_0 c_p0_0, Vi p0_1]] _ rfl rfl rfl rfl hcall ?_
 rintro v w11 ⟨a0_11, c0_11, B2_11, rfl, he11, hmn11, hfn11, hf11_1⟩
 clear hcall hx
 refine ⟨.inr he11, ?_⟩
 have hpk2 : MS (w8).drew ([] ++ [[b4], [b2], M]) := hms.pick [some 0, some 1, some 2] _ rfl
 have hsb2 : ∀ x ∈ fl ([] ++ [[b4], [b2], M]), x ∈ fl [[b4], [b2], M] := pick_sub [some 0, some 1, some 2] _ rfl
 have hst0 := Stp.call (LS := [[b4], [b2], M]) (res := [B2_11]) (par := []) (R := [[b4], [b2], M]) he11 (fun b hb => hsb2 b (fl_left' (P := []) b hb)) hfn11 (NP.init _ _) (fun x hx => hsb2 x (fl_right' (P := []) x hx))
 have hsn : ∀ x ∈ fl [B2_11, [b4], [b2], M], x ∈ fl ([B2_11] ++ ([] ++ [[b4], [b2], M])) := pick_sub [some 0, some 1, some 2, some 3] _ rfl
 have hst := hst0.res hsn
 replace hs_p0_0 := hs_p0_0.step hst
 replace hb4 := he11.box hb4 ((MS.outs (P := []) hpk2 0 rfl) _ mem1)
 replace hms : MS w11 [B2_11, [b4], [b2], M] := (MS.call (P := []) (R := [[b4], [b2], M]) (res := [B2_11]) (par := []) hpk2 he11 hmn11 hfn11 (NP.init _ _)).pick [some 0, some 1, some 2, some 3] _ rfl
 have hfr2 : FR w.heap.size [B2_11, [b4], [b2]] := (FR.cons (fun b hb => Nat.le_trans hev.size (hfn11.at 0 rfl b hb)) (FR.cons (hfr.at 0 rfl) (FR.cons (hfr.at 1 rfl) (FR.nil _))))
 replace hev := hev.ext he11
 replace hfr := hfr2
 clear hfr2
 clear hpk hsb hsb0 hpk2 hsb2 hst0 hsn hst
 obtain ⟨x13, hx, h⟩ := bind_some h
 have hpk := hms.pick [some 1, some 2, some 3] ([] ++ [[b4], [b2], M]) rfl
 have hsb := sub_fold (ls := [B2_11, [b4], [b2], M]) [some 1, some 2, some 3] [[b4], [b2], M] rfl
 have hcall := leastcode_solve_w a_p0_0 c_p0_0 p0_0 p0_1 a0_11 c0_11 x10 _ w11 (fl [[b4], [b2], M]) (MS.fold (P := []) hpk) (hs_p0_0.sub hsb) (OwnR.ro (plain_int _) hf11_1 (pick_outf hms 0 rfl [some 1, some 2, some 3] [[b4], [b2], M] rfl rfl)) hx
 refine x_call 79 #[] #[] [.agg #[Vl a_p0_0 p0_0 c_p0_0, Vi p0_1], Vl a0_11 x10 c0_11] _ rfl rfl rfl rfl hcall ?_
 rintro v w14 ⟨a0_14, c0_14, a2_14, c2_14, rfl, he14, hmn14, hfn14, hf14_1, hf14_2⟩
 clear hcall hx
 refine inl1 ?_
 replace hb4 := he14.box hb4 nn
 replace hms := MS.call0 [blk a0_14, blk a2_14] [blk a0_14, blk a2_14, B2_11, [b4], [b2], M] hms he14 hmn14 hfn14 rfl
 have hfr2 := FR.call0 [blk a0_14, blk a2_14, B2_11, [b4], [b2]] hev.size hfn14 hfr rfl
 replace hev := hev.ext he14
 replace hfr := hfr2
 clear hfr2
 replace hf14_2 := OwnS.plain (M' := fl [blk a0_14, blk a2_14, B2_11, [b4], [b2], M]) (plain_int _) hf14_2
 clear hpk hsb
 refine x_u 7 [(19, .tuple #[Vl a0_14 x13.1 c0_14, Vl a2_14 x13.2.1 c2_14, Vi x13.2.2]), (24, Vl a0_14 x13.1 c0_14), (25, Vl a2_14 x13.2.1 c2_14), (26, Vi x13.2.2), (5, Vl a0_14 x13.1 c0_14), (6, Vl a2_14 x13.2.1 c2_14), (7, Vi x13.2.2)] (x_ek (c_nm [(2, Vp b4 0), (6, Vl a2_14 x13.2.1 c2_14), (7, Vi x13.2.2)] (fun J => ?_)))
 refine c_seq (c_sp (x_u 2 [(27, Vi x13.2.2), (28, .bool (x13.2.2 != 0))] (x_ek (c_if (x13.2.2 != 0) rfl h (fun h => ?_) (fun h => ?_)))))
 · refine c_sp (x_build (vs := []) (.agg #[Vi 0, .slice none 0 0]) rfl rfl rfl (fun _ _ => by kernel_rfl) ?_)
   refine x_u 1 [(30, Vi x13.2.2)] ?_
   obtain ⟨w18, hr18, hb18, he18⟩ := store_boxagg 0 [Vi 0, .slice none 0 0] #[Vi 0, .slice none 0 0] tagg52 hb4 rfl rfl rfl
   refine x_store w18 (xv := Vp b4 0) (yv := .agg #[Vi 0, .slice none 0 0]) rfl rfl rfl rfl hr18 (inl1 ?_)
   replace hms := hms.ev he18
   replace hev := hev.then he18 (fun b hb => .inr (hfr.at 3 rfl b hb))
   replace hb4 := hb18
   refine x_u 1 [(3, Vi x13.2.2)] (x_ek (c_ret (k_then_ret (r_ret (r_vals [.agg #[Vi 0, .slice none 0 0], Vi x13.2.2] ⟨⟨_, rfl, loadVar_of_reads (reads_boxagg (Mo := []) 0 [Vi 0, .slice none 0 0] tagg52 hb4 nn rfl)⟩, rfl, trivial⟩ ?_)))))
   obtain rfl := some_inj h
   have hmr := hms.pick [none, some 5] [blk none, M] rfl
   have hfe := hfr.pick [none] [blk none] rfl
   exact ⟨none, 0, rfl, hev, hmr, hfe, OwnS.nil _ _ _ _⟩
 refine c_skip (k_then (c_sp (x_u 1 [(31, Vl a2_14 x13.2.1 c2_14)] (x_build (vs := [(1, Vl a2_14 x13.2.1 c2_14)]) (.agg #[Vi 0, Vl a2_14 x13.2.1 c2_14]) rfl rfl rfl (fun _ _ => by kernel_rfl) ?_))))
 refine x_alloc (z := .agg #[Vi 0, .slice none 0 0]) rfl rfl (by kernel_rfl) (fun b19 w19 hq19 hb19 he19 hz19 => ?_)
 replace hb19 : w19.heap[b19]? = some (.cells #[Vi 0, .slice none 0 0] 52 (0, 0)) := hb19
 refine inl1 ?_
 have hst := Stp.box (ls := [blk a0_14, blk a2_14, B2_11, [b4], [b2], M]) he19 hq19
 replace hb4 := he19.box hb4 nn
 replace hf14_2 := hf14_2.step hst he19 nn2
 replace hms := hms.box he19 hq19 hb19
 replace hfr := hfr.box hev.size hq19
 replace hev := hev.ext he19
 obtain ⟨w21, hr21, hb21, he21⟩ := store_boxagg 0 [Vi 0, Vl a2_14 x13.2.1 c2_14] #[Vi 0, Vl a2_14 x13.2.1 c2_14] tagg52 hb19 rfl rfl rfl
 refine x_store w21 (xv := Vp b19 0) (yv := .agg #[Vi 0, Vl a2_14 x13.2.1 c2_14]) rfl rfl rfl rfl hr21 (inl1 ?_)
 have hst := Stp.ev' (ls := [[b19], blk a0_14, blk a2_14, B2_11, [b4], [b2], M]) he21 (mem_flat 0 rfl)
 replace hb4 := he21.box hb4 (hms.apart 4 0 rfl rfl rfl _ mem1)
 replace hf14_2 := hf14_2.step hst he21 (hms.apart 2 0 rfl rfl rfl)
 replace hms := hms.ev he21
 replace hev := hev.then he21 (fun b hb => .inr (hfr.at 0 rfl b hb))
 replace hb19 := hb21
 refine x_ek (c_seq (c_sp (x_u 1 [(33, Vl a2_14 x13.2.1 c2_14)] (x_len (vs := [Vl a2_14 x13.2.1 c2_14]) (Vi ((x13.2.1).length : Int)) rfl rfl rfl (reads_len tsl22 _ _ _ _ _) (x_u 1 [(35, Vi 0)] ?_)))))
 refine x_ek (c_block ?_)
 have hpk := hms.pick [some 4, some 2, some 0, some 6] [[b4], blk a2_14, [b19], M] rfl
 have hsu := pick_sub (ls := [[b19], blk a0_14, blk a2_14, B2_11, [b4], [b2], M]) [some 4, some 2, some 0, some 6] [[b4], blk a2_14, [b19], M] rfl
 replace hf14_2 := hf14_2.sub hsu
 replace hms := hpk
 replace hfr := hfr.pick [some 4, some 2, some 0] [[b4], blk a2_14, [b19]] rfl
 clear hpk hsu
 obtain ⟨d22, hd22, h22⟩ := bind_some h
 obtain ⟨m22, hd22⟩ := loop_some hd22
 refine c_loop (loop_rule hmx (σ := Nat × Int × Int) (fun s => match s with | (_, e20_l22_0, t35__s35_l22) => [(2, Vp b4 0), (8, Vp b19 0), (33, Vl a2_14 x13.2.1 c2_14), (34, Vi ((x13.2.1).length : Int)), (35, Vi t35__s35_l22)]) (fun s w' => match s with | (m, e20_l22_0, t35__s35_l22) => loopN (leastcode_Least_L22 x13) m (e20_l22_0, t35__s35_l22) = some d22 ∧ Ev [] w w' ∧ MS w' [[b4], blk a2_14, [b19], M] ∧ FR w.heap.size [[b4], blk a2_14, [b19]] ∧ w'.heap[b4]? = some (.cells #[Vi 0, .slice none 0 0] 52 (0, 0)) ∧ OwnS (eInt .i64) 3 w' (fl [[b4], blk a2_14, [b19], M]) a2_14 c2_14 x13.2.1 ∧ w'.heap[b19]? = some (.cells #[Vi e20_l22_0, Vl a2_14 x13.2.1 c2_14] 52 (0, 0))) (fun s => s.1) (m22, 0, 0) ⟨rfl, rfl, rfl, rfl, rfl, trivial⟩ ⟨hd22, hev, hms, hfr, hb4, hf14_2, hb19⟩ ?_)
 rintro ⟨m22, e20_l22_0, t35__s35_l22⟩ J wl22 ⟨hn22, hev, hms, hfr, hb4, hf14_2, hb19⟩
 rcases m22 with _ | m22
 · exact (loopN_zero hn22).elim
 obtain ⟨t22, h, hn22⟩ := bind_some hn22
 refine c_sp (x_u 1 [(36, .bool (decide (t35__s35_l22 < ((x13.2.1).length : Int))))] (x_ek (c_nm [(2, Vp b4 0), (8, Vp b19 0), (33, Vl a2_14 x13.2.1 c2_14), (34, Vi ((x13.2.1).length : Int)), (35, Vi t35__s35_l22), (36, .bool (decide (t35__s35_l22 < ((x13.2.1).length : Int))))] (fun J => ?_))))
 refine c_seq (c_if (decide (t35__s35_l22 < ((x13.2.1).length : Int))) rfl h (fun h => ?_) (fun h => ?_))
 · refine c_skip (k_then (c_seq (c_block (c_sp ?_))))
   obtain ⟨x24, hx24, h⟩ := bind_some h
   obtain ⟨g24, cs24, ha24, hr24, hc24, hR⟩ := own_index (Mo := []) tsl22 hf14_2 hx24
   obtain rfl := hR
   refine x_indexAddr (xv := Vl a2_14 x13.2.1 c2_14) (yv := Vi t35__s35_l22) (.pointer (some ⟨g24, (Int.toNat t35__s35_l22) * (eInt .i64).n, none⟩)) rfl rfl rfl rfl hr24 (x_load (xv := .pointer (some ⟨g24, (Int.toNat t35__s35_l22) * (eInt .i64).n, none⟩)) (Vi x24) rfl rfl rfl (reads_cell0 tcell3 hc24 (fun _ h => by cases h)) ?_)
   refine x_u 1 [(10, Vi x24)] (x_ek (c_sp (x_u 1 [(40, Vi x24)] ?_)))
   obtain ⟨x26, hx, h⟩ := bind_some h
   have hcall := code_Steps_w x24 _ wl22 hx
   refine x_call 81 #[] #[] [Vi x24] _ rfl rfl rfl rfl hcall ?_
   rintro v w27 ⟨rfl, he27⟩
   clear hcall hx
   refine inl1 ?_
   have hst := Stp.ext (ls := [[b4], blk a2_14, [b19], M]) he27
   replace hb4 := he27.box hb4 nn
   replace hb19 := he27.box hb19 nn
   replace hf14_2 := hf14_2.step hst he27 nn2
   replace hms := hms.ev he27
   replace hev := hev.ext he27
   refine x_u 5 [(39, .tuple #[Vi x26.1, Vi x26.2]), (42, Vi x26.1), (43, Vi x26.2), (11, Vi x26.1), (12, Vi x26.2)] (x_ek (c_plain (x_fieldAddr (xv := Vp b19 0) (Vp b19 0) rfl rfl rfl (reads_field tfld52_0 _ _) (x_load (xv := Vp b19 0) (Vi e20_l22_0) rfl rfl rfl (reads_box tcell3 hb19 nn 0 _ rfl) (x_u 1 [(46, Vi x26.1)] ?_)))))
   refine x_max (vs := [Vi e20_l22_0, Vi x26.1]) (Vi (if x26.1 > e20_l22_0 then x26.1 else e20_l22_0)) rfl rfl rfl (fun _ _ => rfl) (x_fieldAddr (xv := Vp b19 0) (Vp b19 0) rfl rfl rfl (reads_field tfld52_0 _ _) ?_)
   obtain ⟨w28, hr28, hb28, he28⟩ := store_box 0 (Vi (if x26.1 > e20_l22_0 then x26.1 else e20_l22_0)) #[Vi (if x26.1 > e20_l22_0 then x26.1 else e20_l22_0), Vl a2_14 x13.2.1 c2_14] tcell3 hb19 rfl rfl rfl
   refine x_store w28 (xv := Vp b19 0) (yv := Vi (if x26.1 > e20_l22_0 then x26.1 else e20_l22_0)) rfl rfl rfl rfl hr28 (inl1 ?_)
   have hst := Stp.ev' (ls := [[b4], blk a2_14, [b19], M]) he28 (mem_flat 2 rfl)
   replace hb4 := he28.box hb4 (hms.apart 0 2 rfl rfl rfl _ mem1)
   replace hf14_2 := hf14_2.step hst he28 (hms.apart 1 2 rfl rfl rfl)
   replace hms := hms.ev he28
   replace hev := hev.then he28 (fun b hb => .inr (hfr.at 2 rfl b hb))
   replace hb19 := hb28
   refine x_end rfl (k_block (k_then (c_nm [(2, Vp b4 0), (8, Vp b19 0), (33, Vl a2_14 x13.2.1 c2_14), (34, Vi ((x13.2.1).length : Int)), (35, Vi t35__s35_l22)] (fun J => ?_))))
   refine c_plain (x_u 2 [(49, Vi (IntKind.i64.wrap (t35__s35_l22 + 1))), (35, Vi (IntKind.i64.wrap (t35__s35_l22 + 1)))] (x_end rfl ?_))
   obtain rfl := some_inj h
   exact k_then ⟨(m22, if x26.1 > e20_l22_0 then x26.1 else e20_l22_0, IntKind.i64.wrap (t35__s35_l22 + 1)), ⟨rfl, rfl, rfl, rfl, rfl, trivial⟩, ⟨hn22, hev, hms, hfr, hb4, hf14_2, hb19⟩, Nat.lt_succ_self _⟩
 refine c_exit (k_then_exit ?_)
 obtain rfl := some_inj h
 have hy := some_inj hn22
 subst hy
 replace h := h22
 refine k_then_exit (k_block_in (k_then (c_nm [(2, Vp b4 0), (8, Vp b19 0)] (fun J => ?_))))
 refine c_sp (x_load (xv := Vp b19 0) (.agg #[Vi e20_l22_0, Vl a2_14 x13.2.1 c2_14]) rfl rfl rfl (reads_boxagg 0 [Vi e20_l22_0, Vl a2_14 x13.2.1 c2_14] tagg52 hb19 nn rfl) ?_)
 obtain ⟨w29, hr29, hb29, he29⟩ := store_boxagg 0 [Vi e20_l22_0, Vl a2_14 x13.2.1 c2_14] #[Vi e20_l22_0, Vl a2_14 x13.2.1 c2_14] tagg52 hb4 rfl rfl rfl
 refine x_store w29 (xv := Vp b4 0) (yv := .agg #[Vi e20_l22_0, Vl a2_14 x13.2.1 c2_14]) rfl rfl rfl rfl hr29 (inl1 ?_)
 have hst := Stp.ev' (ls := [[b4], blk a2_14, [b19], M]) he29 (mem_flat 0 rfl)
 replace hf14_2 := hf14_2.step hst he29 (hms.apart 1 0 rfl rfl rfl)
 replace hms := hms.ev he29
 replace hev := hev.then he29 (fun b hb => .inr (hfr.at 0 rfl b hb))
 replace hb4 := hb29
 refine x_u 1 [(3, Vi 0)] (x_ek (c_ret (r_ret (r_vals [.agg #[Vi e20_l22_0, Vl a2_14 x13.2.1 c2_14], Vi 0] ⟨⟨_, rfl, loadVar_of_reads (reads_boxagg (Mo := []) 0 [Vi e20_l22_0, Vl a2_14 x13.2.1 c2_14] tagg52 hb4 nn rfl)⟩, rfl, trivial⟩ ?_))))
 obtain rfl := some_inj h
 have hmr := hms.pick [some 1, some 3] [blk a2_14, M] rfl
 have hsu := pick_sub (ls := [[b4], blk a2_14, [b19], M]) [some 1, some 3] [blk a2_14, M] rfl
 have hfe := hfr.pick [some 1] [blk a2_14] rfl
 exact ⟨a2_14, c2_14, rfl, hev, hmr, hfe, hf14_2.sub hsu⟩
def leastcode_Witness_L27 (x7 : (List (List Int))) (x10 : (List Int) × (List Int) × Int) (y_s9_l23 : Int) (s : Int) : Option (Step Int Int) :=
match s with
| t46__s46_l27 =>
(if (decide (t46__s46_l27 < ((x10.2.1).length : Int))) = true then
((idx x7 t46__s46_l27).bind fun x29 =>
((idx x29 y_s9_l23).bind fun x31 =>
(if (decide (x31 > 0)) = true then
((idx x10.2.1 t46__s46_l27).bind fun x33 =>
((idx x10.1 y_s9_l23).bind fun x35 =>
(if ((IntKind.i64.wrap ((IntKind.i64.wrap (x33 + x31)) - 1)) == x35) = true then
some (.done t46__s46_l27)
else
some (.next (IntKind.i64.wrap (t46__s46_l27 + 1))))))
else
some (.next (IntKind.i64.wrap (t46__s46_l27 + 1))))))
else
some (.done y_s9_l23))
def leastcode_Witness_L23 (x7 : (List (List Int))) (x10 : (List Int) × (List Int) × Int) (s : Int × (List Int)) : Option (Step (Int × (List Int)) (List Int)) :=
match s with
| (y_s9_l23, d21_l23) =>
((idx x10.1 y_s9_l23).bind fun x25 =>
(if (decide (x25 > 0)) = true then
((loop (leastcode_Witness_L27 x7 x10 y_s9_l23) 0).bind fun d => match d with
| y_s9_x27 => (if d21_l23.length + ([y_s9_x27]).length ≤ 4294967296 then
some (.next (y_s9_x27, (d21_l23 ++ [y_s9_x27])))
else none))
else
some (.done d21_l23)))
def leastcode_Witness (p0_0 : List (Int × Int × Int × Int)) (p0_1 : Int) : Option ((List Int) × Int) :=
((job_Valid p0_0 p0_1).bind fun x5 =>
(if (x5 != 0) = true then
some ([], x5)
else
((leastcode_relations p0_0 p0_1).bind fun x7 =>
((leastcode_solve p0_0 p0_1 x7).bind fun x10 =>
(if (x10.2.2 != 0) = true then
some ([], x10.2.2)
else
(if (((x10.2.1).length : Int) == 0) = true then
some ([], 0)
else
((slices_Max_int_int_ x10.2.1).bind fun x16 =>
((slices_Index_int_int_ x10.2.1 x16).bind fun x18 =>
((loop (leastcode_Witness_L23 x7 x10) (x18, ([x18] : List Int))).bind fun d => match d with
| d21_x23 => some (d21_x23.reverse, 0))))))))))
theorem leastcode_Witness_w (a_p0_0 : Option Addr) (c_p0_0 : Nat) (p0_0 : List (Int × Int × Int × Int)) (p0_1 : Int) (r : (List Int) × Int) (w : World) (M : List Nat) (hms : MS w [M]) (hs_p0_0 : SlR (eIt4) w (fl [M]) a_p0_0 c_p0_0 p0_0) (h : leastcode_Witness p0_0 p0_1 = some r) : CallVC Tryz.prog 52 [.agg #[.slice a_p0_0 (p0_0).length c_p0_0, Vi p0_1]] w fun v w' => ∃ (a0' : Option Addr), ∃ (c0' : Nat), v = .tuple #[.slice a0' (r.1).length c0', Vi r.2] ∧ Ev [] w w' ∧ MS w' [blk a0', M] ∧ FR w.heap.size [blk a0'] ∧ OwnS (eInt .i64) 3 w' (fl [blk a0', M]) a0' c0' r.1 := by
 refine calls_vc hmx Tryz.func52 (by kernel_rfl) rfl (rs := [.tmp 2, .tmp 3]) rfl (by kernel_rfl) (args := [.agg #[.slice a_p0_0 (p0_0).length c_p0_0, Vi p0_1]]) rfl ?_
 have hev : Ev [] w w := Ev.refl _ _
 have hfr : FR w.heap.size [] := FR.nil _
 refine c_sp (x_box (xv := .agg #[.slice a_p0_0 (p0_0).length c_p0_0, Vi p0_1]) rfl rfl rfl (fun b2 w2 hq2 hb2 he2 hz2 => ?_))
 replace hb2 : w2.heap[b2]? = some (.cells #[.slice a_p0_0 (p0_0).length c_p0_0, Vi p0_1] 50 (0, 0)) := hb2
 refine inl1 ?_
 have hst := Stp.box (ls := [M]) he2 hq2
 replace hs_p0_0 := hs_p0_0.step hst
 replace hms := hms.box he2 hq2 hb2
 replace hfr := hfr.box hev.size hq2
 replace hev := hev.ext he2
 refine x_u 2 [(2, .slice none 0 0), (3, Vi 0)] (x_ek (c_seq (c_sp (x_load (xv := Vp b2 0) (.agg #[.slice a_p0_0 (p0_0).length c_p0_0, Vi p0_1]) rfl rfl rfl (reads_boxagg 0 [.slice a_p0_0 (p0_0).length c_p0_0, Vi p0_1] tagg50 hb2 nn rfl) ?_))))
 obtain ⟨x5, hx, h⟩ := bind_some h
 have hcall := job_Valid_w a_p0_0 c_p0_0 p0_0 p0_1 _ w2 (fl [[b2], M]) (MS.fold (P := []) hms) (hs_p0_0.sub fl1) hx
 refine x_call 46 #[] #[] [.agg #[.slice a_p0_0 (p0_0).length c_p0_0, Vi p0_1]] _ rfl rfl rfl rfl hcall ?_
 rintro v w6 ⟨rfl, he6⟩
 clear hcall hx
 refine inl1 ?_
 have hst := Stp.ext (ls := [[b2], M]) he6
 replace hs_p0_0 := hs_p0_0.step hst
 replace hb2 := he6.box hb2 nn
 replace hms := hms.ev he6
 replace hev := hev.ext he6
 refine x_u 1 [(4, Vi x5)] (x_ek (c_sp (x_u 2 [(15, Vi x5), (16, .bool (x5 != 0))] (x_ek (c_if (x5 != 0) rfl h (fun h => ?_) (fun h => ?_))))))
 · refine c_sp (x_u 3 [(17, Vi x5), (2, .slice none 0 0), (3, Vi x5)] (x_ek (c_ret (k_then_ret (r_ret (r_vals [.slice none 0 0, Vi x5] ⟨rfl, rfl, trivial⟩ ?_))))))
   obtain rfl := some_inj h
   have hmr := hms.pick [none, some 1] [blk none, M] rfl
   have hfe := hfr.pick [none] [blk none] rfl
   exact ⟨none, 0, rfl, hev, hmr, hfe, OwnS.nil _ _ _ _⟩
 refine c_skip (k_then (c_sp (x_load (xv := Vp b2 0) (.agg #[.slice a_p0_0 (p0_0).length c_p0_0, Vi p0_1]) rfl rfl rfl (reads_boxagg 0 [.slice a_p0_0 (p0_0).length c_p0_0, Vi p0_1] tagg50 hb2 nn rfl) ?_)))
 obtain ⟨x7, hx, h⟩ := bind_some h
 have hcall := leastcode_relations_w a_p0_0 c_p0_0 p0_0 p0_1 _ w6 (fl [[b2], M]) (MS.fold (P := []) hms) (hs_p0_0.sub fl1) hx
 refine x_call 80 #[] #[] [.agg #[.slice a_p0_0 (p0_0).length c_p0_0, Vi p0_1]] _ rfl rfl rfl rfl hcall ?_
 rintro v w8 ⟨a0_8, c0_8, B2_8, rfl, he8, hmn8, hfn8, hf8_1⟩
 clear hcall hx
 refine inl1 ?_
 have hst := Stp.call0 [[b2], M] [B2_8] [B2_8, [b2], M] he8 hfn8 rfl
 replace hs_p0_0 := hs_p0_0.step hst
 replace hb2 := he8.box hb2 nn
 replace hms := MS.call0 [B2_8] [B2_8, [b2], M] hms he8 hmn8 hfn8 rfl
 have hfr2 := FR.call0 [B2_8, [b2]] hev.size hfn8 hfr rfl
 replace hev := hev.ext he8
 replace hfr := hfr2
 clear hfr2
 clear hst
 refine x_u 1 [(5, .slice a0_8 (x7).length c0_8)] (x_ek (c_sp (x_load (xv := Vp b2 0) (.agg #[.slice a_p0_0 (p0_0).length c_p0_0, Vi p0_1]) rfl rfl rfl (reads_boxagg 0 [.slice a_p0_0 (p0_0).length c_p0_0, Vi p0_1] tagg50 hb2 nn rfl) (x_u 1 [(22, .slice a0_8 (x7).length c0_8)] ?_))))
 obtain ⟨x10, hx, h⟩ := bind_some h
 have hpk := hms.pick [some 1, some 2] ([] ++ [[b2], M]) rfl
 have hsb := sub_fold (ls := [B2_8, [b2], M]) [some 1, some 2] [[b2], M] rfl
 have hcall := leastcode_solve_w a_p0_0 c_p0_0 p0_0 p0_1 a0_8 c0_8 x7 _ w8 (fl [[b2], M]) (MS.fold (P := []) hpk) (hs_p0_0.sub hsb) (OwnR.ro (plain_int _) hf8_1 (pick_outf hms 0 rfl [some 1, some 2] [[b2], M] rfl rfl)) hx
 refine x_call 79 #[] #[] [.agg #[.slice a_p0_0 (p0_0).length c_p0_0, Vi p0_1], .slice a0_8 (x7).length c0_8] _ rfl rfl rfl rfl hcall ?_
 rintro v w11 ⟨a0_11, c0_11, a2_11, c2_11, rfl, he11, hmn11, hfn11, hf11_1, hf11_2⟩
 clear hcall hx
 refine inl1 ?_
 replace hf8_1 := hf8_1.step (plain_int _) he11 nn2
 replace hms := MS.call0 [blk a0_11, blk a2_11] [blk a0_11, blk a2_11, B2_8, [b2], M] hms he11 hmn11 hfn11 rfl
 have hfr2 := FR.call0 [blk a0_11, blk a2_11, B2_8, [b2]] hev.size hfn11 hfr rfl
 replace hev := hev.ext he11
 replace hfr := hfr2
 clear hfr2
 replace hf11_1 := OwnS.plain (M' := fl [blk a0_11, blk a2_11, B2_8, [b2], M]) (plain_int _) hf11_1
 replace hf11_2 := OwnS.plain (M' := fl [blk a0_11, blk a2_11, B2_8, [b2], M]) (plain_int _) hf11_2
 clear hpk hsb
 refine x_u 7 [(20, .tuple #[.slice a0_11 (x10.1).length c0_11, .slice a2_11 (x10.2.1).length c2_11, Vi x10.2.2]), (24, .slice a0_11 (x10.1).length c0_11), (25, .slice a2_11 (x10.2.1).length c2_11), (26, Vi x10.2.2), (6, .slice a0_11 (x10.1).length c0_11), (7, .slice a2_11 (x10.2.1).length c2_11), (8, Vi x10.2.2)] (x_ek (c_nm [(5, .slice a0_8 (x7).length c0_8), (6, .slice a0_11 (x10.1).length c0_11), (7, .slice a2_11 (x10.2.1).length c2_11), (8, Vi x10.2.2)] (fun J => ?_)))
 refine c_seq (c_sp (x_u 2 [(27, Vi x10.2.2), (28, .bool (x10.2.2 != 0))] (x_ek (c_if (x10.2.2 != 0) rfl h (fun h => ?_) (fun h => ?_)))))
 · refine c_sp (x_u 3 [(29, Vi x10.2.2), (2, .slice none 0 0), (3, Vi x10.2.2)] (x_ek (c_ret (k_then_ret (r_ret (r_vals [.slice none 0 0, Vi x10.2.2] ⟨rfl, rfl, trivial⟩ ?_))))))
   obtain rfl := some_inj h
   have hmr := hms.pick [none, some 4] [blk none, M] rfl
   have hfe := hfr.pick [none] [blk none] rfl
   exact ⟨none, 0, rfl, hev, hmr, hfe, OwnS.nil _ _ _ _⟩
 refine c_skip (k_then (c_seq (c_sp (x_u 1 [(30, .slice a2_11 (x10.2.1).length c2_11)] (x_len (vs := [.slice a2_11 (x10.2.1).length c2_11]) (Vi ((x10.2.1).length : Int)) rfl rfl rfl (reads_len tsl22 _ _ _ _ _) ?_)))))
 refine x_u 1 [(32, .bool (((x10.2.1).length : Int) == 0))] (x_ek (c_if (((x10.2.1).length : Int) == 0) rfl h (fun h => ?_) (fun h => ?_)))
 · refine c_sp (x_u 2 [(2, .slice none 0 0), (3, Vi 0)] (x_ek (c_ret (k_then_ret (r_ret (r_vals [.slice none 0 0, Vi 0] ⟨rfl, rfl, trivial⟩ ?_))))))
   obtain rfl := some_inj h
   have hmr := hms.pick [none, some 4] [blk none, M] rfl
   have hfe := hfr.pick [none] [blk none] rfl
   exact ⟨none, 0, rfl, hev, hmr, hfe, OwnS.nil _ _ _ _⟩
 refine c_skip (k_then (c_sp (x_u 2 [(33, .slice a2_11 (x10.2.1).length c2_11), (34, .slice a2_11 (x10.2.1).length c2_11)] ?_)))
 obtain ⟨x16, hx, h⟩ := bind_some h
 have hpk := hms.pick [some 0, some 2, some 3, some 4] ([] ++ [blk a0_11, B2_8, [b2], M]) rfl
 have hsb := sub_fold (ls := [blk a0_11, blk a2_11, B2_8, [b2], M]) [some 0, some 2, some 3, some 4] [blk a0_11, B2_8, [b2], M] rfl
 have hcall := slices_Max_int_int__w a2_11 c2_11 x10.2.1 _ w11 (fl [blk a0_11, B2_8, [b2], M]) (MS.fold (P := []) hpk) (hf11_2.ro hsb (pick_outf hms 1 rfl [some 0, some 2, some 3, some 4] [blk a0_11, B2_8, [b2], M] rfl rfl)) hx
 refine x_call 83 #[] #[] [.slice a2_11 (x10.2.1).length c2_11] _ rfl rfl rfl rfl hcall ?_
 rintro v w17 ⟨rfl, he17⟩
 clear hcall hx
 refine inl1 ?_
 have hst := Stp.ext (ls := [blk a0_11, blk a2_11, B2_8, [b2], M]) he17
 replace hf8_1 := hf8_1.step (plain_int _) he17 nn2
 replace hf11_1 := hf11_1.step hst he17 nn2
 replace hf11_2 := hf11_2.step hst he17 nn2
 replace hms := hms.ev he17
 replace hev := hev.ext he17
 clear hpk hsb
 obtain ⟨x18, hx, h⟩ := bind_some h
 have hpk := hms.pick [some 0, some 2, some 3, some 4] ([] ++ [blk a0_11, B2_8, [b2], M]) rfl
 have hsb := sub_fold (ls := [blk a0_11, blk a2_11, B2_8, [b2], M]) [some 0, some 2, some 3, some 4] [blk a0_11, B2_8, [b2], M] rfl
 have hcall := slices_Index_int_int__w a2_11 c2_11 x10.2.1 x16 _ w17 (fl [blk a0_11, B2_8, [b2], M]) (MS.fold (P := []) hpk) (hf11_2.ro hsb (pick_outf hms 1 rfl [some 0, some 2, some 3, some 4] [blk a0_11, B2_8, [b2], M] rfl rfl)) hx
 refine x_call 82 #[] #[] [.slice a2_11 (x10.2.1).length c2_11, Vi x16] _ rfl rfl rfl rfl hcall ?_
 rintro v w19 ⟨rfl, he19⟩
 clear hcall hx
 refine inl1 ?_
 have hst := Stp.ext (ls := [blk a0_11, blk a2_11, B2_8, [b2], M]) he19
 replace hf8_1 := hf8_1.step (plain_int _) he19 nn2
 replace hf11_1 := hf11_1.step hst he19 nn2
 replace hf11_2 := hf11_2.step hst he19 nn2
 replace hms := hms.ev he19
 replace hev := hev.ext he19
 clear hpk hsb
 refine x_u 1 [(9, Vi x18)] (x_ek (c_sp (x_u 1 [(37, Vi x18)] (x_buildSlice (vs := [(0, Vi x18)]) #[Vi x18] 3 rfl rfl rfl (by kernel_rfl) (fun b20 w20 hq20 hb20 he20 hz20 => ?_)))))
 refine inl1 ?_
 obtain ⟨a20, ea20⟩ : ∃ a, a = some (⟨b20, 0, none⟩ : Addr) := ⟨_, rfl⟩
 have hw20 : ∀ M, OwnS (eInt .i64) 3 w20 M a20 1 ([x18] : List Int) := fun M => ea20 ▸ own_of_box hb20 (by decide) rfl rfl (cells_at (cs := [Vi x18]) (CellsOf.cons (c := [Vi x18]) rfl CellsOf.nil))
 have hn20 : ∀ b ∈ blk a20, w19.heap.size ≤ b ∧ b < w20.heap.size := by subst ea20; intro b hb; simp only [blk, List.mem_singleton] at hb; subst hb; exact ⟨Nat.le_of_eq hq20.symm, lt_of_heap hb20⟩
 clear hb20
 have hst := Stp.push (ls := [blk a0_11, blk a2_11, B2_8, [b2], M]) (l := blk a20) he20 (fun _ h => by cases h) (fun b hb => (hn20 b hb).1)
 replace hf8_1 := hf8_1.step (plain_int _) he20 nn2
 replace hf11_1 := hf11_1.step hst he20 nn2
 replace hf11_2 := hf11_2.step hst he20 nn2
 replace hms := hms.push he20 hn20
 replace hfr := hfr.push (fun b hb => Nat.le_trans hev.size (hn20 b hb).1)
 replace hev := hev.ext he20
 have ho20 := hw20 (fl [blk a20, blk a0_11, blk a2_11, B2_8, [b2], M])
 clear hw20
 rw [← ea20]
 refine x_u 1 [(10, .slice a20 (([x18] : List Int)).length 1)] (x_ek (c_nm [(5, .slice a0_8 (x7).length c0_8), (6, .slice a0_11 (x10.1).length c0_11), (7, .slice a2_11 (x10.2.1).length c2_11), (9, Vi x18), (10, .slice a20 (([x18] : List Int)).length 1)] (fun J => ?_)))
 refine c_seq (c_block ?_)
 have hpk := hms.pick [some 3, some 1, some 2, some 0, some 5] [B2_8, blk a0_11, blk a2_11, blk a20, M] rfl
 have hsu := pick_sub (ls := [blk a20, blk a0_11, blk a2_11, B2_8, [b2], M]) [some 3, some 1, some 2, some 0, some 5] [B2_8, blk a0_11, blk a2_11, blk a20, M] rfl
 replace hf11_1 := hf11_1.sub hsu
 replace hf11_2 := hf11_2.sub hsu
 replace ho20 := ho20.sub hsu
 replace hms := hpk
 replace hfr := hfr.pick [some 3, some 1, some 2, some 0] [B2_8, blk a0_11, blk a2_11, blk a20] rfl
 clear hpk hsu
 obtain ⟨d23, hd23, h23⟩ := bind_some h
 obtain ⟨m23, hd23⟩ := loop_some hd23
 refine c_loop (loop_rule hmx (σ := Nat × Int × (List Int) × Option Addr × Nat) (fun s => match s with | (_, y_s9_l23, d21_l23, a21_l23, c21_l23) => [(5, .slice a0_8 (x7).length c0_8), (6, .slice a0_11 (x10.1).length c0_11), (7, .slice a2_11 (x10.2.1).length c2_11), (9, Vi y_s9_l23), (10, .slice a21_l23 (d21_l23).length c21_l23)]) (fun s w' => match s with | (m, y_s9_l23, d21_l23, a21_l23, c21_l23) => loopN (leastcode_Witness_L23 x7 x10) m (y_s9_l23, d21_l23) = some d23 ∧ Ev [] w w' ∧ MS w' [B2_8, blk a0_11, blk a2_11, blk a21_l23, M] ∧ FR w.heap.size [B2_8, blk a0_11, blk a2_11, blk a21_l23] ∧ OwnR (eInt .i64) 3 22 w' B2_8 a0_8 c0_8 x7 none ∧ OwnS (eInt .i64) 3 w' (fl [B2_8, blk a0_11, blk a2_11, blk a21_l23, M]) a0_11 c0_11 x10.1 ∧ OwnS (eInt .i64) 3 w' (fl [B2_8, blk a0_11, blk a2_11, blk a21_l23, M]) a2_11 c2_11 x10.2.1 ∧ OwnS (eInt .i64) 3 w' (fl [B2_8, blk a0_11, blk a2_11, blk a21_l23, M]) a21_l23 c21_l23 d21_l23) (fun s => s.1) (m23, x18, ([x18] : List Int), a20, 1) ⟨rfl, rfl, rfl, rfl, rfl, trivial⟩ ⟨hd23, hev, hms, hfr, hf8_1, hf11_1, hf11_2, ho20⟩ ?_)
 rintro ⟨m23, y_s9_l23, d21_l23, a21_l23, c21_l23⟩ J wl23 ⟨hn23, hev, hms, hfr, hf8_1, hf11_1, hf11_2, ho20⟩
 rcases m23 with _ | m23
 · exact (loopN_zero hn23).elim
 obtain ⟨t23, h, hn23⟩ := bind_some hn23
 refine c_seq (c_sp (x_u 2 [(39, .slice a0_11 (x10.1).length c0_11), (40, Vi y_s9_l23)] ?_))
 obtain ⟨x25, hx25, h⟩ := bind_some h
 obtain ⟨g25, cs25, ha25, hr25, hc25, hR⟩ := own_index (Mo := []) tsl22 hf11_1 hx25
 obtain rfl := hR
 refine x_indexAddr (xv := .slice a0_11 (x10.1).length c0_11) (yv := Vi y_s9_l23) (.pointer (some ⟨g25, (Int.toNat y_s9_l23) * (eInt .i64).n, none⟩)) rfl rfl rfl rfl hr25 (x_load (xv := .pointer (some ⟨g25, (Int.toNat y_s9_l23) * (eInt .i64).n, none⟩)) (Vi x25) rfl rfl rfl (reads_cell0 tcell3 hc25 (fun _ h => by cases h)) ?_)
 refine x_u 1 [(43, .bool (decide (x25 > 0)))] (x_ek (c_nm [(5, .slice a0_8 (x7).length c0_8), (6, .slice a0_11 (x10.1).length c0_11), (7, .slice a2_11 (x10.2.1).length c2_11), (9, Vi y_s9_l23), (10, .slice a21_l23 (d21_l23).length c21_l23), (43, .bool (decide (x25 > 0)))] (fun J => ?_)))
 refine c_if (decide (x25 > 0)) rfl h (fun h => ?_) (fun h => ?_)
 · refine c_skip (k_then (c_block (c_seq (c_sp (x_u 1 [(44, .slice a2_11 (x10.2.1).length c2_11)] ?_)))))
   refine x_len (vs := [.slice a2_11 (x10.2.1).length c2_11]) (Vi ((x10.2.1).length : Int)) rfl rfl rfl (reads_len tsl22 _ _ _ _ _) (x_u 1 [(46, Vi 0)] (x_ek (c_block ?_)))
   obtain ⟨d27, hd27, h27⟩ := bind_some h
   obtain ⟨m27, hd27⟩ := loop_some hd27
   refine c_loop (loop_rule hmx (σ := Nat × Int) (fun s => match s with | (_, t46__s46_l27) => [(5, .slice a0_8 (x7).length c0_8), (6, .slice a0_11 (x10.1).length c0_11), (7, .slice a2_11 (x10.2.1).length c2_11), (9, Vi y_s9_l23), (10, .slice a21_l23 (d21_l23).length c21_l23), (45, Vi ((x10.2.1).length : Int)), (46, Vi t46__s46_l27)]) (fun s w' => match s with | (m, t46__s46_l27) => loopN (leastcode_Witness_L27 x7 x10 y_s9_l23) m t46__s46_l27 = some d27 ∧ Ev [] w w' ∧ MS w' [B2_8, blk a0_11, blk a2_11, blk a21_l23, M] ∧ FR w.heap.size [B2_8, blk a0_11, blk a2_11, blk a21_l23] ∧ OwnR (eInt .i64) 3 22 w' B2_8 a0_8 c0_8 x7 none ∧ OwnS (eInt .i64) 3 w' (fl [B2_8, blk a0_11, blk a2_11, blk a21_l23, M]) a0_11 c0_11 x10.1 ∧ OwnS (eInt .i64) 3 w' (fl [B2_8, blk a0_11, blk a2_11, blk a21_l23, M]) a2_11 c2_11 x10.2.1 ∧ OwnS (eInt .i64) 3 w' (fl [B2_8, blk a0_11, blk a2_11, blk a21_l23, M]) a21_l23 c21_l23 d21_l23) (fun s => s.1) (m27, 0) ⟨rfl, rfl, rfl, rfl, rfl, rfl, rfl, trivial⟩ ⟨hd27, hev, hms, hfr, hf8_1, hf11_1, hf11_2, ho20⟩ ?_)
   rintro ⟨m27, t46__s46_l27⟩ J wl27 ⟨hn27, hev, hms, hfr, hf8_1, hf11_1, hf11_2, ho20⟩
   rcases m27 with _ | m27
   · exact (loopN_zero hn27).elim
   obtain ⟨t27, h, hn27⟩ := bind_some hn27
   refine c_sp (x_u 1 [(47, .bool (decide (t46__s46_l27 < ((x10.2.1).length : Int))))] (x_ek (c_nm [(5, .slice a0_8 (x7).length c0_8), (6, .slice a0_11 (x10.1).length c0_11), (7, .slice a2_11 (x10.2.1).length c2_11), (9, Vi y_s9_l23), (10, .slice a21_l23 (d21_l23).length c21_l23), (45, Vi ((x10.2.1).length : Int)), (46, Vi t46__s46_l27), (47, .bool (decide (t46__s46_l27 < ((x10.2.1).length : Int))))] (fun J => ?_))))
   refine c_seq (c_if (decide (t46__s46_l27 < ((x10.2.1).length : Int))) rfl h (fun h => ?_) (fun h => ?_))
   · refine c_skip (k_then (c_seq (c_block (c_sp (x_u 2 [(48, Vi t46__s46_l27), (11, Vi t46__s46_l27)] ?_)))))
     refine x_ek (c_sp (x_u 2 [(49, .slice a0_8 (x7).length c0_8), (50, Vi t46__s46_l27)] ?_))
     obtain ⟨x29, hx29, h⟩ := bind_some h
     obtain ⟨g29, ai29, ci29, hr29, hv29⟩ := OwnR.view (P := Tryz.prog) (Mo := []) tsl57 hf8_1 hx29
     refine x_indexAddr (xv := .slice a0_8 (x7).length c0_8) (yv := Vi t46__s46_l27) (.pointer (some ⟨g29, (Int.toNat t46__s46_l27), none⟩)) rfl rfl rfl rfl hr29 (x_load (xv := .pointer (some ⟨g29, (Int.toNat t46__s46_l27), none⟩)) (.slice ai29 (x29).length ci29) rfl rfl rfl (RView.load tcell22 hv29) (x_u 1 [(53, Vi y_s9_l23)] ?_))
     obtain ⟨x31, hx31, h⟩ := bind_some h
     obtain ⟨ad31, cs31, hr31, hc31, hR, hB31, hae31⟩ := RView.elem (P := Tryz.prog) (Mo := []) tsl22 hv29 hx31
     obtain rfl := hR
     refine x_indexAddr (xv := .slice ai29 (x29).length ci29) (yv := Vi y_s9_l23) (.pointer (some ad31)) rfl rfl rfl rfl hr31 (x_load (xv := .pointer (some ad31)) (Vi x31) rfl rfl rfl (reads_cell0 tcell3 hc31 (fun b hb => hb)) (x_u 1 [(12, Vi x31)] (x_ek (c_seq (c_drawn [] [(0, false), (1, false), (2, false), (3, false), (4, false), (5, false), (6, false), (7, false), (8, false), (9, false), (10, false), (11, false), (12, false), (13, false), (14, false), (15, false)] _ (by kernel_rfl) rfl ?_)))))
     have hst := Stp.ext (ls := [B2_8, blk a0_11, blk a2_11, blk a21_l23, M]) (Ev.drew wl27)
     replace hf8_1 := hf8_1.step (plain_int _) (Ev.drew wl27) nn2
     replace hf11_1 := hf11_1.step hst (Ev.drew wl27) nn2
     replace hf11_2 := hf11_2.step hst (Ev.drew wl27) nn2
     replace ho20 := ho20.step hst (Ev.drew wl27) nn2
     replace hms := hms.ev (Ev.drew wl27)
     replace hev := hev.ext (Ev.drew wl27)
     refine x_u 3 [(56, Vi x31), (57, .bool (decide (x31 > 0))), (58, .bool (decide (x31 > 0)))] (x_if 58 (decide (x31 > 0)) rfl h (fun h => ?_) (fun h => ?_))
     · refine x_u 2 [(59, .slice a2_11 (x10.2.1).length c2_11), (60, Vi t46__s46_l27)] ?_
       obtain ⟨x33, hx33, h⟩ := bind_some h
       obtain ⟨g33, cs33, ha33, hr33, hc33, hR⟩ := own_index (Mo := []) tsl22 hf11_2 hx33
       obtain rfl := hR
       refine x_indexAddr (xv := .slice a2_11 (x10.2.1).length c2_11) (yv := Vi t46__s46_l27) (.pointer (some ⟨g33, (Int.toNat t46__s46_l27) * (eInt .i64).n, none⟩)) rfl rfl rfl rfl hr33 (x_load (xv := .pointer (some ⟨g33, (Int.toNat t46__s46_l27) * (eInt .i64).n, none⟩)) (Vi x33) rfl rfl rfl (reads_cell0 tcell3 hc33 (fun _ h => by cases h)) ?_)
       refine x_u 5 [(63, Vi x31), (64, Vi (IntKind.i64.wrap (x33 + x31))), (65, Vi (IntKind.i64.wrap ((IntKind.i64.wrap (x33 + x31)) - 1))), (66, .slice a0_11 (x10.1).length c0_11), (67, Vi y_s9_l23)] ?_
       obtain ⟨x35, hx35, h⟩ := bind_some h
       obtain ⟨g35, cs35, ha35, hr35, hc35, hR⟩ := own_index (Mo := []) tsl22 hf11_1 hx35
       obtain rfl := hR
       refine x_indexAddr (xv := .slice a0_11 (x10.1).length c0_11) (yv := Vi y_s9_l23) (.pointer (some ⟨g35, (Int.toNat y_s9_l23) * (eInt .i64).n, none⟩)) rfl rfl rfl rfl hr35 (x_load (xv := .pointer (some ⟨g35, (Int.toNat y_s9_l23) * (eInt .i64).n, none⟩)) (Vi x35) rfl rfl rfl (reads_cell0 tcell3 hc35 (fun _ h => by cases h)) ?_)
       refine x_u 2 [(70, .bool ((IntKind.i64.wrap ((IntKind.i64.wrap (x33 + x31)) - 1)) == x35)), (71, .bool ((IntKind.i64.wrap ((IntKind.i64.wrap (x33 + x31)) - 1)) == x35))] (x_ek (c_nm [(5, .slice a0_8 (x7).length c0_8), (6, .slice a0_11 (x10.1).length c0_11), (7, .slice a2_11 (x10.2.1).length c2_11), (9, Vi y_s9_l23), (10, .slice a21_l23 (d21_l23).length c21_l23), (11, Vi t46__s46_l27), (45, Vi ((x10.2.1).length : Int)), (46, Vi t46__s46_l27), (71, .bool ((IntKind.i64.wrap ((IntKind.i64.wrap (x33 + x31)) - 1)) == x35))] (fun J => ?_)))
       refine c_if ((IntKind.i64.wrap ((IntKind.i64.wrap (x33 + x31)) - 1)) == x35) rfl h (fun h => ?_) (fun h => ?_)
       · refine c_sp (x_u 2 [(72, Vi t46__s46_l27), (9, Vi t46__s46_l27)] (x_ek (c_exit (k_block_out rfl (k_then_exit ?_)))))
         obtain rfl := some_inj h
         have hy := some_inj hn27
         subst hy
         replace h := h27
         refine k_then_exit (k_block_in (k_then (c_nm [(5, .slice a0_8 (x7).length c0_8), (6, .slice a0_11 (x10.1).length c0_11), (7, .slice a2_11 (x10.2.1).length c2_11), (9, Vi t46__s46_l27), (10, .slice a21_l23 (d21_l23).length c21_l23)] (fun J => ?_))))
         refine c_plain (x_u 2 [(74, .slice a21_l23 (d21_l23).length c21_l23), (75, Vi t46__s46_l27)] (x_buildSlice (vs := [(0, Vi t46__s46_l27)]) #[Vi t46__s46_l27] 3 rfl rfl rfl (by kernel_rfl) (fun b37 w37 hq37 hb37 he37 hz37 => ?_)))
         refine inl1 ?_
         have hms0 := hms
         have hst := Stp.ext (ls := [B2_8, blk a0_11, blk a2_11, blk a21_l23, M]) he37
         replace hf8_1 := hf8_1.step (plain_int _) he37 nn2
         replace hf11_1 := hf11_1.step hst he37 nn2
         replace hf11_2 := hf11_2.step hst he37 nn2
         replace ho20 := ho20.step hst he37 nn2
         replace hms := hms.ev he37
         replace hev := hev.ext he37
         have hs37 : SlR (eInt .i64) w37 (fl [B2_8, blk a0_11, blk a2_11, blk a21_l23, M]) (Ad b37 0) 1 ([t46__s46_l27]) := ro_of_box hms0 hq37 hb37 rfl rfl (cells_at (cs := [Vi t46__s46_l27]) (CellsOf.cons (c := [Vi t46__s46_l27]) rfl CellsOf.nil))
         clear hb37 hms0
         have hg := guard_l h
         replace h := guard_r h
         obtain ⟨a39, c39, w39, hr39, he39, hn39, hm39, hw39⟩ := own_appendN tel22 22 ho20 (mem_flat 3 rfl) hs37 hg
         refine x_builtin (vs := [.slice a21_l23 (d21_l23).length c21_l23, .slice (Ad b37 0) ([t46__s46_l27]).length 1]) _ w39 rfl rfl rfl rfl (run_value _ _ _ _ hr39) (inl1 ?_)
         have hst : Stp (fl [B2_8, blk a0_11, blk a2_11, blk a21_l23, M]) w37 (fl [B2_8, blk a0_11, blk a2_11, blk a39, M]) w39 := Stp.upd 3 he39 rfl (fun b hb => (hn39 b hb).1)
         replace hf8_1 := hf8_1.step (plain_int _) he39 (hms.apart 0 3 rfl rfl rfl)
         replace hf11_1 := hf11_1.step hst he39 (hms.apart 1 3 rfl rfl rfl)
         replace hf11_2 := hf11_2.step hst he39 (hms.apart 2 3 rfl rfl rfl)
         replace hms : MS w39 [B2_8, blk a0_11, blk a2_11, blk a39, M] := hms.upd 3 he39 rfl hn39
         have hfr2 : FR w.heap.size [B2_8, blk a0_11, blk a2_11, blk a39] := hfr.upd 3 rfl hev.size (fun b hb => (hn39 b hb).1)
         replace hev := hev.then he39 (fun b hb => .inr (hfr.at 3 rfl b hb))
         replace hfr := hfr2
         clear hfr2
         replace ho20 := hw39 (fl [B2_8, blk a0_11, blk a2_11, blk a39, M]) hst.new
         clear hw39
         refine x_u 1 [(10, .slice a39 ((d21_l23 ++ [t46__s46_l27])).length c39)] (x_end rfl (k_block ?_))
         obtain rfl := some_inj h
         exact k_then ⟨(m23, t46__s46_l27, (d21_l23 ++ [t46__s46_l27]), a39, c39), ⟨rfl, rfl, rfl, rfl, rfl, trivial⟩, ⟨hn23, hev, hms, hfr, hf8_1, hf11_1, hf11_2, ho20⟩, Nat.lt_succ_self _⟩
       refine c_skip (k_block (k_then (c_plain (x_u 2 [(73, Vi (IntKind.i64.wrap (t46__s46_l27 + 1))), (46, Vi (IntKind.i64.wrap (t46__s46_l27 + 1)))] (x_end rfl ?_)))))
       obtain rfl := some_inj h
       exact k_then ⟨(m27, IntKind.i64.wrap (t46__s46_l27 + 1)), ⟨rfl, rfl, rfl, rfl, rfl, rfl, rfl, trivial⟩, ⟨hn27, hev, hms, hfr, hf8_1, hf11_1, hf11_2, ho20⟩, Nat.lt_succ_self _⟩
     refine x_u 13 [(59, undef), (60, undef), (61, undef), (62, undef), (63, undef), (64, undef), (65, undef), (66, undef), (67, undef), (68, undef), (69, undef), (70, undef), (71, .bool false)] (x_ek (c_nm [(5, .slice a0_8 (x7).length c0_8), (6, .slice a0_11 (x10.1).length c0_11), (7, .slice a2_11 (x10.2.1).length c2_11), (9, Vi y_s9_l23), (10, .slice a21_l23 (d21_l23).length c21_l23), (11, Vi t46__s46_l27), (45, Vi ((x10.2.1).length : Int)), (46, Vi t46__s46_l27), (71, .bool false)] (fun J => ?_)))
     refine c_false rfl (c_skip (k_block (k_then (c_plain (x_u 2 [(73, Vi (IntKind.i64.wrap (t46__s46_l27 + 1))), (46, Vi (IntKind.i64.wrap (t46__s46_l27 + 1)))] ?_)))))
     refine x_end rfl ?_
     obtain rfl := some_inj h
     exact k_then ⟨(m27, IntKind.i64.wrap (t46__s46_l27 + 1)), ⟨rfl, rfl, rfl, rfl, rfl, rfl, rfl, trivial⟩, ⟨hn27, hev, hms, hfr, hf8_1, hf11_1, hf11_2, ho20⟩, Nat.lt_succ_self _⟩
   refine c_exit (k_then_exit ?_)
   obtain rfl := some_inj h
   have hy := some_inj hn27
   subst hy
   replace h := h27
   refine k_then_exit (k_block_in (k_then (c_nm [(5, .slice a0_8 (x7).length c0_8), (6, .slice a0_11 (x10.1).length c0_11), (7, .slice a2_11 (x10.2.1).length c2_11), (9, Vi y_s9_l23), (10, .slice a21_l23 (d21_l23).length c21_l23)] (fun J => ?_))))
   refine c_plain (x_u 2 [(74, .slice a21_l23 (d21_l23).length c21_l23), (75, Vi y_s9_l23)] (x_buildSlice (vs := [(0, Vi y_s9_l23)]) #[Vi y_s9_l23] 3 rfl rfl rfl (by kernel_rfl) (fun b37 w37 hq37 hb37 he37 hz37 => ?_)))
   refine inl1 ?_
   have hms0 := hms
   have hst := Stp.ext (ls := [B2_8, blk a0_11, blk a2_11, blk a21_l23, M]) he37
   replace hf8_1 := hf8_1.step (plain_int _) he37 nn2
   replace hf11_1 := hf11_1.step hst he37 nn2
   replace hf11_2 := hf11_2.step hst he37 nn2
   replace ho20 := ho20.step hst he37 nn2
   replace hms := hms.ev he37
   replace hev := hev.ext he37
   have hs37 : SlR (eInt .i64) w37 (fl [B2_8, blk a0_11, blk a2_11, blk a21_l23, M]) (Ad b37 0) 1 ([y_s9_l23]) := ro_of_box hms0 hq37 hb37 rfl rfl (cells_at (cs := [Vi y_s9_l23]) (CellsOf.cons (c := [Vi y_s9_l23]) rfl CellsOf.nil))
   clear hb37 hms0
   have hg := guard_l h
   replace h := guard_r h
   obtain ⟨a39, c39, w39, hr39, he39, hn39, hm39, hw39⟩ := own_appendN tel22 22 ho20 (mem_flat 3 rfl) hs37 hg
   refine x_builtin (vs := [.slice a21_l23 (d21_l23).length c21_l23, .slice (Ad b37 0) ([y_s9_l23]).length 1]) _ w39 rfl rfl rfl rfl (run_value _ _ _ _ hr39) (inl1 ?_)
   have hst : Stp (fl [B2_8, blk a0_11, blk a2_11, blk a21_l23, M]) w37 (fl [B2_8, blk a0_11, blk a2_11, blk a39, M]) w39 := Stp.upd 3 he39 rfl (fun b hb => (hn39 b hb).1)
   replace hf8_1 := hf8_1.step (plain_int _) he39 (hms.apart 0 3 rfl rfl rfl)
   replace hf11_1 := hf11_1.step hst he39 (hms.apart 1 3 rfl rfl rfl)
   replace hf11_2 := hf11_2.step hst he39 (hms.apart 2 3 rfl rfl rfl)
   replace hms : MS w39 [B2_8, blk a0_11, blk a2_11, blk a39, M] := hms.upd 3 he39 rfl hn39
   have hfr2 : FR w.heap.size [B2_8, blk a0_11, blk a2_11, blk a39] := hfr.upd 3 rfl hev.size (fun b hb => (hn39 b hb).1)
   replace hev := hev.then he39 (fun b hb => .inr (hfr.at 3 rfl b hb))
   replace hfr := hfr2
   clear hfr2
   replace ho20 := hw39 (fl [B2_8, blk a0_11, blk a2_11, blk a39, M]) hst.new
   clear hw39
   refine x_u 1 [(10, .slice a39 ((d21_l23 ++ [y_s9_l23])).length c39)] (x_end rfl (k_block ?_))
   obtain rfl := some_inj h
   exact k_then ⟨(m23, y_s9_l23, (d21_l23 ++ [y_s9_l23]), a39, c39), ⟨rfl, rfl, rfl, rfl, rfl, trivial⟩, ⟨hn23, hev, hms, hfr, hf8_1, hf11_1, hf11_2, ho20⟩, Nat.lt_succ_self _⟩
 refine c_exit (k_then_exit ?_)
 obtain rfl := some_inj h
 have hy := some_inj hn23
 subst hy
 replace h := h23
 refine k_then_exit (k_block_in (k_then (c_nm [(10, .slice a21_l23 (d21_l23).length c21_l23)] (fun J => ?_))))
 refine c_sp (x_u 1 [(78, .slice a21_l23 (d21_l23).length c21_l23)] ?_)
 have hcall := revI_w (P := Tryz.prog) Lreverse (f := 84) rfl ⟨_, Tryz.func84, by kernel_rfl, rfl⟩ (T := 3) ho20
 refine x_call 84 #[] #[] [.slice a21_l23 (d21_l23).length c21_l23] _ rfl rfl rfl rfl hcall ?_
 rintro v w40 ⟨rfl, he40, hln40, hw40⟩
 clear hcall
 refine inl1 ?_
 replace hms := hms.ev he40
 replace hev := hev.then he40 (fun b hb => .inr (hfr.at 3 rfl b hb))
 replace ho20 := hw40 (fl [B2_8, blk a0_11, blk a2_11, blk a21_l23, M])
 have hsl : (Value.slice a21_l23 (d21_l23).length c21_l23) = (Value.slice a21_l23 (d21_l23.reverse).length c21_l23) := by first | (rw [hln40]; done) | simp only [hln40]
 try rw [hsl]
 clear hsl
 refine x_ek (c_sp (x_u 3 [(80, .slice a21_l23 (d21_l23.reverse).length c21_l23), (2, .slice a21_l23 (d21_l23.reverse).length c21_l23), (3, Vi 0)] (x_ek (c_ret (r_ret (r_vals [.slice a21_l23 (d21_l23.reverse).length c21_l23, Vi 0] ⟨rfl, rfl, trivial⟩ ?_))))))
 obtain rfl := some_inj h
 have hmr := hms.pick [some 3, some 4] [blk a21_l23, M] rfl
 have hsu := pick_sub (ls := [B2_8, blk a0_11, blk a2_11, blk a21_l23, M]) [some 3, some 4] [blk a21_l23, M] rfl
 have hfe := hfr.pick [some 3] [blk a21_l23] rfl
 exact ⟨a21_l23, c21_l23, rfl, hev, hmr, hfe, ho20.sub hsu⟩
def leastcode_Bound_J28 (p0_0 : List (Int × Int × Int × Int)) (p0_1 : Int) (t59__s59_l24 : Int) (x26 : Int) (bound_s10_j28 : Int) : Option (Step (Int × Int) (Int ⊕ Int)) :=
((idx p0_0 x26).bind fun x37 =>
((code_Next bound_s10_j28 x37.2.2.1 p0_1).bind fun x39 =>
(if (x39.2 != 0) = true then
some (.done (.inl x39.2))
else
some (.next (x39.1, IntKind.i64.wrap (t59__s59_l24 + 1))))))
def leastcode_Bound_L24 (p0_0 : List (Int × Int × Int × Int)) (p0_1 : Int) (p1 : List Int) (x8 : (List (List Int))) (s : Int × Int) : Option (Step (Int × Int) (Int ⊕ Int)) :=
match s with
| (bound_s10_l24, t59__s59_l24) =>
(if (decide (t59__s59_l24 < ((p1).length : Int))) = true then
((idx p1 t59__s59_l24).bind fun x26 =>
(if (decide (t59__s59_l24 > 0)) = true then
((idx p1 (IntKind.i64.wrap (t59__s59_l24 - 1))).bind fun x29 =>
((idx x8 x29).bind fun x31 =>
((idx x31 x26).bind fun x35 =>
leastcode_Bound_J28 p0_0 p0_1 t59__s59_l24 x26 (IntKind.i64.wrap (bound_s10_l24 + (IntKind.i64.wrap (x35 - 1)))))))
else
leastcode_Bound_J28 p0_0 p0_1 t59__s59_l24 x26 bound_s10_l24))
else
some (.done (.inr bound_s10_l24)))
def leastcode_Bound_L12 (p0_0 : List (Int × Int × Int × Int)) (p1 : List Int) (x8 : (List (List Int))) (s : Int) : Option (Step Int (Unit ⊕ Unit)) :=
match s with
| t24__s24_l12 =>
(if (decide (t24__s24_l12 < ((p1).length : Int))) = true then
((idx p1 t24__s24_l12).bind fun x14 =>
(if (decide (x14 < 0)) = true then
some (.done (.inl ()))
else
(if (decide (x14 ≥ ((p0_0).length : Int))) = true then
some (.done (.inl ()))
else
(if (decide (t24__s24_l12 > 0)) = true then
((idx p1 (IntKind.i64.wrap (t24__s24_l12 - 1))).bind fun x16 =>
((idx x8 x16).bind fun x18 =>
((idx x18 x14).bind fun x22 =>
(if (x22 == 0) = true then
some (.done (.inl ()))
else
some (.next (IntKind.i64.wrap (t24__s24_l12 + 1)))))))
else
some (.next (IntKind.i64.wrap (t24__s24_l12 + 1)))))))
else
some (.done (.inr ())))
def leastcode_Bound (p0_0 : List (Int × Int × Int × Int)) (p0_1 : Int) (p1 : List Int) : Option (Int × Int) :=
((job_Valid p0_0 p0_1).bind fun x6 =>
(if (x6 != 0) = true then
some (0, x6)
else
((leastcode_relations p0_0 p0_1).bind fun x8 =>
((loop (leastcode_Bound_L12 p0_0 p1 x8) 0).bind fun d => match d with
| (.inl _) => some (0, 1)
| (.inr _) => ((loop (leastcode_Bound_L24 p0_0 p0_1 p1 x8) (0, 0)).bind fun d => match d with
| (.inl t5__s5_x2400) => some (0, t5__s5_x2400)
| (.inr bound_s10_x2401) => some (bound_s10_x2401, 0))))))
theorem leastcode_Bound_w (a_p0_0 : Option Addr) (c_p0_0 : Nat) (p0_0 : List (Int × Int × Int × Int)) (p0_1 : Int) (a_p1 : Option Addr) (c_p1 : Nat) (p1 : List Int) (r : Int × Int) (w : World) (M : List Nat) (hms : MS w [M]) (hs_p0_0 : SlR (eIt4) w (fl [M]) a_p0_0 c_p0_0 p0_0) (hs_p1 : SlR (eInt .i64) w (fl [M]) a_p1 c_p1 p1) (h : leastcode_Bound p0_0 p0_1 p1 = some r) : CallVC Tryz.prog 92 [.agg #[Vl a_p0_0 p0_0 c_p0_0, Vi p0_1], Vl a_p1 p1 c_p1] w fun v w' => v = .tuple #[Vi r.1, Vi r.2] ∧ Ev [] w w' := by
 refine calls_vc hmx Tryz.func92 (by kernel_rfl) rfl (rs := [.tmp 4, .tmp 5]) rfl (by kernel_rfl) (args := [.agg #[Vl a_p0_0 p0_0 c_p0_0, Vi p0_1], Vl a_p1 p1 c_p1]) rfl ?_
 have hev : Ev [] w w := Ev.refl _ _
 have hfr : FR w.heap.size [] := FR.nil _
 refine c_sp (x_box (xv := .agg #[Vl a_p0_0 p0_0 c_p0_0, Vi p0_1]) rfl rfl rfl (fun b3 w3 hq3 hb3 he3 hz3 => ?_))
 replace hb3 : w3.heap[b3]? = some (.cells #[Vl a_p0_0 p0_0 c_p0_0, Vi p0_1] 50 (0, 0)) := hb3
 refine inl1 ?_
 have hst := Stp.box (ls := [M]) he3 hq3
 replace hs_p0_0 := hs_p0_0.step hst
 replace hs_p1 := hs_p1.step hst
 replace hms := hms.box he3 hq3 hb3
 replace hfr := hfr.box hev.size hq3
 replace hev := hev.ext he3
 refine x_u 2 [(4, Vi 0), (5, Vi 0)] (x_ek (c_seq (c_sp (x_load (xv := Vp b3 0) (.agg #[Vl a_p0_0 p0_0 c_p0_0, Vi p0_1]) rfl rfl rfl (reads_boxagg 0 [Vl a_p0_0 p0_0 c_p0_0, Vi p0_1] tagg50 hb3 nn rfl) ?_))))
 obtain ⟨x6, hx, h⟩ := bind_some h
 have hcall := job_Valid_w a_p0_0 c_p0_0 p0_0 p0_1 _ w3 (fl [[b3], M]) (MS.fold (P := []) hms) (hs_p0_0.sub fl1) hx
 refine x_call 46 #[] #[] [.agg #[Vl a_p0_0 p0_0 c_p0_0, Vi p0_1]] _ rfl rfl rfl rfl hcall ?_
 rintro v w7 ⟨rfl, he7⟩
 clear hcall hx
 refine inl1 ?_
 have hst := Stp.ext (ls := [[b3], M]) he7
 replace hs_p0_0 := hs_p0_0.step hst
 replace hs_p1 := hs_p1.step hst
 replace hb3 := he7.box hb3 nn
 replace hms := hms.ev he7
 replace hev := hev.ext he7
 refine x_u 1 [(6, Vi x6)] (x_ek (c_sp (x_u 2 [(17, Vi x6), (18, .bool (x6 != 0))] (x_ek (c_if (x6 != 0) rfl h (fun h => ?_) (fun h => ?_))))))
 · refine c_sp (x_u 3 [(19, Vi x6), (4, Vi 0), (5, Vi x6)] (x_ek (c_ret (k_then_ret (r_ret (r_vals [Vi 0, Vi x6] ⟨rfl, rfl, trivial⟩ ?_))))))
   obtain rfl := some_inj h
   exact ⟨rfl, hev⟩
 refine c_skip (k_then (c_sp (x_load (xv := Vp b3 0) (.agg #[Vl a_p0_0 p0_0 c_p0_0, Vi p0_1]) rfl rfl rfl (reads_boxagg 0 [Vl a_p0_0 p0_0 c_p0_0, Vi p0_1] tagg50 hb3 nn rfl) ?_)))
 obtain ⟨x8, hx, h⟩ := bind_some h
 have hcall := leastcode_relations_w a_p0_0 c_p0_0 p0_0 p0_1 _ w7 (fl [[b3], M]) (MS.fold (P := []) hms) (hs_p0_0.sub fl1) hx
 refine x_call 80 #[] #[] [.agg #[Vl a_p0_0 p0_0 c_p0_0, Vi p0_1]] _ rfl rfl rfl rfl hcall ?_
 rintro v w9 ⟨a0_9, c0_9, B2_9, rfl, he9, hmn9, hfn9, hf9_1⟩
 clear hcall hx
 refine inl1 ?_
 have hst := Stp.call0 [[b3], M] [B2_9] [B2_9, [b3], M] he9 hfn9 rfl
 replace hs_p0_0 := hs_p0_0.step hst
 replace hs_p1 := hs_p1.step hst
 replace hb3 := he9.box hb3 nn
 replace hms := MS.call0 [B2_9] [B2_9, [b3], M] hms he9 hmn9 hfn9 rfl
 have hfr2 := FR.call0 [B2_9, [b3]] hev.size hfn9 hfr rfl
 replace hev := hev.ext he9
 replace hfr := hfr2
 clear hfr2
 clear hst
 have hpk := hms.pick [some 1, some 2] [[b3], M] rfl
 have hsu := pick_sub (ls := [B2_9, [b3], M]) [some 1, some 2] [[b3], M] rfl
 replace hs_p0_0 := hs_p0_0.sub hsu
 replace hs_p1 := hs_p1.sub hsu
 replace hf9_1 := hf9_1.ro (plain_int _) (pick_out hms 0 rfl [some 1, some 2] [[b3], M] rfl rfl)
 replace hms := hpk
 replace hfr := hfr.pick [some 1] [[b3]] rfl
 clear hpk hsu
 refine x_u 1 [(7, Vl a0_9 x8 c0_9)] (x_ek (c_seq (c_sp (x_u 1 [(22, Vl a_p1 p1 c_p1)] (x_len (vs := [Vl a_p1 p1 c_p1]) (Vi ((p1).length : Int)) rfl rfl rfl (reads_len tsl22 _ _ _ _ _) ?_)))))
 refine x_u 1 [(24, Vi 0)] (x_ek (c_nm [(1, Vl a_p1 p1 c_p1), (2, Vp b3 0), (7, Vl a0_9 x8 c0_9), (22, Vl a_p1 p1 c_p1), (23, Vi ((p1).length : Int)), (24, Vi 0)] (fun J => ?_)))
 refine c_block ?_
 obtain ⟨d12, hd12, h12⟩ := bind_some h
 obtain ⟨m12, hd12⟩ := loop_some hd12
 refine c_loop (loop_rule hmx (σ := Nat × Int) (fun s => match s with | (_, t24__s24_l12) => [(1, Vl a_p1 p1 c_p1), (2, Vp b3 0), (7, Vl a0_9 x8 c0_9), (22, Vl a_p1 p1 c_p1), (23, Vi ((p1).length : Int)), (24, Vi t24__s24_l12)]) (fun s w' => match s with | (m, t24__s24_l12) => loopN (leastcode_Bound_L12 p0_0 p1 x8) m t24__s24_l12 = some d12 ∧ Ev [] w w' ∧ MS w' [[b3], M] ∧ FR w.heap.size [[b3]] ∧ SlR (eInt .i64) w' (fl [[b3], M]) a_p1 c_p1 p1 ∧ SlR (eIt4) w' (fl [[b3], M]) a_p0_0 c_p0_0 p0_0 ∧ w'.heap[b3]? = some (.cells #[Vl a_p0_0 p0_0 c_p0_0, Vi p0_1] 50 (0, 0)) ∧ SlR (eSl (eInt .i64)) w' (fl [[b3], M]) a0_9 c0_9 x8) (fun s => s.1) (m12, 0) ⟨rfl, rfl, rfl, rfl, rfl, rfl, trivial⟩ ⟨hd12, hev, hms, hfr, hs_p1, hs_p0_0, hb3, hf9_1⟩ ?_)
 rintro ⟨m12, t24__s24_l12⟩ J wl12 ⟨hn12, hev, hms, hfr, hs_p1, hs_p0_0, hb3, hf9_1⟩
 rcases m12 with _ | m12
 · exact (loopN_zero hn12).elim
 obtain ⟨t12, h, hn12⟩ := bind_some hn12
 refine c_sp (x_u 1 [(25, .bool (decide (t24__s24_l12 < ((p1).length : Int))))] (x_ek (c_nm [(1, Vl a_p1 p1 c_p1), (2, Vp b3 0), (7, Vl a0_9 x8 c0_9), (22, Vl a_p1 p1 c_p1), (23, Vi ((p1).length : Int)), (24, Vi t24__s24_l12), (25, .bool (decide (t24__s24_l12 < ((p1).length : Int))))] (fun J => ?_))))
 refine c_seq (c_if (decide (t24__s24_l12 < ((p1).length : Int))) rfl h (fun h => ?_) (fun h => ?_))
 · refine c_skip (k_then (c_seq (c_block (c_sp (x_u 1 [(26, Vi t24__s24_l12)] ?_)))))
   obtain ⟨x14, hx14, h⟩ := bind_some h
   obtain ⟨ad14, cs14, hr14, hc14, hR⟩ := reads_index (Mo := []) tsl22 hs_p1 hx14
   obtain rfl := hR
   refine x_indexAddr (xv := Vl a_p1 p1 c_p1) (yv := Vi t24__s24_l12) (.pointer (some ad14)) rfl rfl rfl rfl hr14 (x_load (xv := .pointer (some ad14)) (Vi x14) rfl rfl rfl (reads_cell0 tcell3 hc14 (fun _ h => by cases h)) ?_)
   refine x_u 2 [(8, Vi t24__s24_l12), (9, Vi x14)] (x_ek (c_sp (x_u 3 [(29, Vi x14), (30, .bool (decide (x14 < 0))), (31, .bool (decide (x14 < 0)))] (x_if 31 (decide (x14 < 0)) rfl h (fun h => ?_) (fun h => ?_)))))
   · refine x_u 24 [(32, undef), (33, undef), (34, undef), (35, undef), (36, undef), (37, .bool true), (38, .bool true), (39, undef), (40, undef), (41, undef), (42, undef), (43, undef), (44, undef), (45, undef), (46, undef), (47, undef), (48, undef), (49, undef), (50, undef), (51, undef), (52, undef), (53, undef), (54, undef), (55, .bool true)] (x_ek (c_nm [(1, Vl a_p1 p1 c_p1), (2, Vp b3 0), (7, Vl a0_9 x8 c0_9), (22, Vl a_p1 p1 c_p1), (23, Vi ((p1).length : Int)), (24, Vi t24__s24_l12), (55, .bool true)] (fun J => ?_)))
     refine c_true rfl (c_sp (x_u 2 [(4, Vi 0), (5, Vi 1)] (x_ek (c_ret (k_block_ret ?_)))))
     refine k_then_ret ?_
     obtain rfl := some_inj h
     have hy := some_inj hn12
     subst hy
     replace h := h12
     refine k_then_ret (k_block_ret (k_then_ret (r_ret (r_vals [Vi 0, Vi 1] ⟨rfl, rfl, trivial⟩ ?_))))
     obtain rfl := some_inj h
     exact ⟨rfl, hev⟩
   refine x_u 1 [(32, Vi x14)] (x_fieldAddr (xv := Vp b3 0) (Vp b3 0) rfl rfl rfl (reads_field tfld50_0 _ _) (x_load (xv := Vp b3 0) (Vl a_p0_0 p0_0 c_p0_0) rfl rfl rfl (reads_box tcell36 hb3 nn 0 _ rfl) (x_len (vs := [Vl a_p0_0 p0_0 c_p0_0]) (Vi ((p0_0).length : Int)) rfl rfl rfl (reads_len tsl36 _ _ _ _ _) (x_u 3 [(36, .bool (decide (x14 ≥ ((p0_0).length : Int)))), (37, .bool (decide (x14 ≥ ((p0_0).length : Int)))), (38, .bool (decide (x14 ≥ ((p0_0).length : Int))))] (x_if 38 (decide (x14 ≥ ((p0_0).length : Int))) rfl h (fun h => ?_) (fun h => ?_))))))
   · refine x_u 17 [(39, undef), (40, undef), (41, undef), (42, undef), (43, undef), (44, undef), (45, undef), (46, undef), (47, undef), (48, undef), (49, undef), (50, undef), (51, undef), (52, undef), (53, undef), (54, undef), (55, .bool true)] (x_ek (c_nm [(1, Vl a_p1 p1 c_p1), (2, Vp b3 0), (7, Vl a0_9 x8 c0_9), (22, Vl a_p1 p1 c_p1), (23, Vi ((p1).length : Int)), (24, Vi t24__s24_l12), (55, .bool true)] (fun J => ?_)))
     refine c_true rfl (c_sp (x_u 2 [(4, Vi 0), (5, Vi 1)] (x_ek (c_ret (k_block_ret ?_)))))
     refine k_then_ret ?_
     obtain rfl := some_inj h
     have hy := some_inj hn12
     subst hy
     replace h := h12
     refine k_then_ret (k_block_ret (k_then_ret (r_ret (r_vals [Vi 0, Vi 1] ⟨rfl, rfl, trivial⟩ ?_))))
     obtain rfl := some_inj h
     exact ⟨rfl, hev⟩
   refine x_u 3 [(39, Vi t24__s24_l12), (40, .bool (decide (t24__s24_l12 > 0))), (41, .bool (decide (t24__s24_l12 > 0)))] (x_if 41 (decide (t24__s24_l12 > 0)) rfl h (fun h => ?_) (fun h => ?_))
   · refine x_u 4 [(42, Vl a0_9 x8 c0_9), (43, Vl a_p1 p1 c_p1), (44, Vi t24__s24_l12), (45, Vi (IntKind.i64.wrap (t24__s24_l12 - 1)))] ?_
     obtain ⟨x16, hx16, h⟩ := bind_some h
     obtain ⟨ad16, cs16, hr16, hc16, hR⟩ := reads_index (Mo := []) tsl22 hs_p1 hx16
     obtain rfl := hR
     refine x_indexAddr (xv := Vl a_p1 p1 c_p1) (yv := Vi (IntKind.i64.wrap (t24__s24_l12 - 1))) (.pointer (some ad16)) rfl rfl rfl rfl hr16 (x_load (xv := .pointer (some ad16)) (Vi x16) rfl rfl rfl (reads_cell0 tcell3 hc16 (fun _ h => by cases h)) ?_)
     obtain ⟨x18, hx18, h⟩ := bind_some h
     obtain ⟨ad18, cs18, hr18, hc18, hR⟩ := reads_index (Mo := []) tsl57 hf9_1 hx18
     obtain ⟨a19, c19, rfl, hs19⟩ := hR
     refine x_indexAddr (xv := Vl a0_9 x8 c0_9) (yv := Vi x16) (.pointer (some ad18)) rfl rfl rfl rfl hr18 (x_load (xv := .pointer (some ad18)) (Vl a19 x18 c19) rfl rfl rfl (reads_cell0 tcell22 hc18 (fun _ h => by cases h)) ?_)
     refine x_u 1 [(50, Vi x14)] ?_
     obtain ⟨x22, hx22, h⟩ := bind_some h
     obtain ⟨ad22, cs22, hr22, hc22, hR⟩ := reads_index (Mo := []) tsl22 hs19 hx22
     obtain rfl := hR
     refine x_indexAddr (xv := Vl a19 x18 c19) (yv := Vi x14) (.pointer (some ad22)) rfl rfl rfl rfl hr22 (x_load (xv := .pointer (some ad22)) (Vi x22) rfl rfl rfl (reads_cell0 tcell3 hc22 (fun _ h => by cases h)) ?_)
     refine x_u 3 [(53, .bool (x22 == 0)), (54, .bool (x22 == 0)), (55, .bool (x22 == 0))] (x_ek (c_nm [(1, Vl a_p1 p1 c_p1), (2, Vp b3 0), (7, Vl a0_9 x8 c0_9), (22, Vl a_p1 p1 c_p1), (23, Vi ((p1).length : Int)), (24, Vi t24__s24_l12), (55, .bool (x22 == 0))] (fun J => ?_)))
     refine c_if (x22 == 0) rfl h (fun h => ?_) (fun h => ?_)
     · refine c_sp (x_u 2 [(4, Vi 0), (5, Vi 1)] (x_ek (c_ret (k_block_ret (k_then_ret ?_)))))
       obtain rfl := some_inj h
       have hy := some_inj hn12
       subst hy
       replace h := h12
       refine k_then_ret (k_block_ret (k_then_ret (r_ret (r_vals [Vi 0, Vi 1] ⟨rfl, rfl, trivial⟩ ?_))))
       obtain rfl := some_inj h
       exact ⟨rfl, hev⟩
     refine c_skip (k_block (k_then (c_plain (x_u 2 [(56, Vi (IntKind.i64.wrap (t24__s24_l12 + 1))), (24, Vi (IntKind.i64.wrap (t24__s24_l12 + 1)))] (x_end rfl ?_)))))
     obtain rfl := some_inj h
     exact k_then ⟨(m12, IntKind.i64.wrap (t24__s24_l12 + 1)), ⟨rfl, rfl, rfl, rfl, rfl, rfl, trivial⟩, ⟨hn12, hev, hms, hfr, hs_p1, hs_p0_0, hb3, hf9_1⟩, Nat.lt_succ_self _⟩
   refine x_u 14 [(42, undef), (43, undef), (44, undef), (45, undef), (46, undef), (47, undef), (48, undef), (49, undef), (50, undef), (51, undef), (52, undef), (53, undef), (54, .bool false), (55, .bool false)] (x_ek (c_nm [(1, Vl a_p1 p1 c_p1), (2, Vp b3 0), (7, Vl a0_9 x8 c0_9), (22, Vl a_p1 p1 c_p1), (23, Vi ((p1).length : Int)), (24, Vi t24__s24_l12), (55, .bool false)] (fun J => ?_)))
   refine c_false rfl (c_skip (k_block (k_then (c_plain (x_u 2 [(56, Vi (IntKind.i64.wrap (t24__s24_l12 + 1))), (24, Vi (IntKind.i64.wrap (t24__s24_l12 + 1)))] ?_)))))
   refine x_end rfl ?_
   obtain rfl := some_inj h
   exact k_then ⟨(m12, IntKind.i64.wrap (t24__s24_l12 + 1)), ⟨rfl, rfl, rfl, rfl, rfl, rfl, trivial⟩, ⟨hn12, hev, hms, hfr, hs_p1, hs_p0_0, hb3, hf9_1⟩, Nat.lt_succ_self _⟩
 refine c_exit (k_then_exit ?_)
 obtain rfl := some_inj h
 have hy := some_inj hn12
 subst hy
 replace h := h12
 refine k_then_exit (k_block_in (k_then (c_nm [(1, Vl a_p1 p1 c_p1), (2, Vp b3 0), (7, Vl a0_9 x8 c0_9)] (fun J => ?_))))
 refine c_sp (x_u 1 [(10, Vi 0)] (x_ek (c_seq (c_sp (x_u 1 [(57, Vl a_p1 p1 c_p1)] ?_)))))
 refine x_len (vs := [Vl a_p1 p1 c_p1]) (Vi ((p1).length : Int)) rfl rfl rfl (reads_len tsl22 _ _ _ _ _) (x_u 1 [(59, Vi 0)] (x_ek (c_block ?_)))
 obtain ⟨d24, hd24, h24⟩ := bind_some h
 obtain ⟨m24, hd24⟩ := loop_some hd24
 refine c_loop (loop_rule hmx (σ := Nat × Int × Int) (fun s => match s with | (_, bound_s10_l24, t59__s59_l24) => [(1, Vl a_p1 p1 c_p1), (2, Vp b3 0), (7, Vl a0_9 x8 c0_9), (10, Vi bound_s10_l24), (57, Vl a_p1 p1 c_p1), (58, Vi ((p1).length : Int)), (59, Vi t59__s59_l24)]) (fun s w' => match s with | (m, bound_s10_l24, t59__s59_l24) => loopN (leastcode_Bound_L24 p0_0 p0_1 p1 x8) m (bound_s10_l24, t59__s59_l24) = some d24 ∧ Ev [] w w' ∧ MS w' [[b3], M] ∧ FR w.heap.size [[b3]] ∧ SlR (eInt .i64) w' (fl [[b3], M]) a_p1 c_p1 p1 ∧ SlR (eIt4) w' (fl [[b3], M]) a_p0_0 c_p0_0 p0_0 ∧ w'.heap[b3]? = some (.cells #[Vl a_p0_0 p0_0 c_p0_0, Vi p0_1] 50 (0, 0)) ∧ SlR (eSl (eInt .i64)) w' (fl [[b3], M]) a0_9 c0_9 x8) (fun s => s.1) (m24, 0, 0) ⟨rfl, rfl, rfl, rfl, rfl, rfl, rfl, trivial⟩ ⟨hd24, hev, hms, hfr, hs_p1, hs_p0_0, hb3, hf9_1⟩ ?_)
 rintro ⟨m24, bound_s10_l24, t59__s59_l24⟩ J wl24 ⟨hn24, hev, hms, hfr, hs_p1, hs_p0_0, hb3, hf9_1⟩
 rcases m24 with _ | m24
 · exact (loopN_zero hn24).elim
 obtain ⟨t24, h, hn24⟩ := bind_some hn24
 refine c_sp (x_u 1 [(60, .bool (decide (t59__s59_l24 < ((p1).length : Int))))] (x_ek (c_nm [(1, Vl a_p1 p1 c_p1), (2, Vp b3 0), (7, Vl a0_9 x8 c0_9), (10, Vi bound_s10_l24), (57, Vl a_p1 p1 c_p1), (58, Vi ((p1).length : Int)), (59, Vi t59__s59_l24), (60, .bool (decide (t59__s59_l24 < ((p1).length : Int))))] (fun J => ?_))))
 refine c_seq (c_if (decide (t59__s59_l24 < ((p1).length : Int))) rfl h (fun h => ?_) (fun h => ?_))
 · refine c_skip (k_then (c_seq (c_block (c_sp (x_u 1 [(61, Vi t59__s59_l24)] ?_)))))
   obtain ⟨x26, hx26, h⟩ := bind_some h
   obtain ⟨ad26, cs26, hr26, hc26, hR⟩ := reads_index (Mo := []) tsl22 hs_p1 hx26
   obtain rfl := hR
   refine x_indexAddr (xv := Vl a_p1 p1 c_p1) (yv := Vi t59__s59_l24) (.pointer (some ad26)) rfl rfl rfl rfl hr26 (x_load (xv := .pointer (some ad26)) (Vi x26) rfl rfl rfl (reads_cell0 tcell3 hc26 (fun _ h => by cases h)) ?_)
   refine x_u 2 [(11, Vi t59__s59_l24), (12, Vi x26)] (x_ek (c_join (σ := Int) (fun s => match s with | bound_s10_j28 => [(1, Vl a_p1 p1 c_p1), (2, Vp b3 0), (7, Vl a0_9 x8 c0_9), (10, Vi bound_s10_j28), (12, Vi x26), (57, Vl a_p1 p1 c_p1), (58, Vi ((p1).length : Int)), (59, Vi t59__s59_l24)]) (fun s w' => match s with | bound_s10_j28 => leastcode_Bound_J28 p0_0 p0_1 t59__s59_l24 x26 bound_s10_j28 = some t24 ∧ Ev [] w w' ∧ MS w' [[b3], M] ∧ FR w.heap.size [[b3]] ∧ SlR (eInt .i64) w' (fl [[b3], M]) a_p1 c_p1 p1 ∧ SlR (eIt4) w' (fl [[b3], M]) a_p0_0 c_p0_0 p0_0 ∧ w'.heap[b3]? = some (.cells #[Vl a_p0_0 p0_0 c_p0_0, Vi p0_1] 50 (0, 0)) ∧ SlR (eSl (eInt .i64)) w' (fl [[b3], M]) a0_9 c0_9 x8) ?_ ?_))
   · refine c_sp (x_u 2 [(64, Vi t59__s59_l24), (65, .bool (decide (t59__s59_l24 > 0)))] (x_ek (c_if (decide (t59__s59_l24 > 0)) rfl h (fun h => ?_) (fun h => ?_))))
     · refine c_plain (x_u 5 [(66, Vi bound_s10_l24), (67, Vl a0_9 x8 c0_9), (68, Vl a_p1 p1 c_p1), (69, Vi t59__s59_l24), (70, Vi (IntKind.i64.wrap (t59__s59_l24 - 1)))] ?_)
       obtain ⟨x29, hx29, h⟩ := bind_some h
       obtain ⟨ad29, cs29, hr29, hc29, hR⟩ := reads_index (Mo := []) tsl22 hs_p1 hx29
       obtain rfl := hR
       refine x_indexAddr (xv := Vl a_p1 p1 c_p1) (yv := Vi (IntKind.i64.wrap (t59__s59_l24 - 1))) (.pointer (some ad29)) rfl rfl rfl rfl hr29 (x_load (xv := .pointer (some ad29)) (Vi x29) rfl rfl rfl (reads_cell0 tcell3 hc29 (fun _ h => by cases h)) ?_)
       obtain ⟨x31, hx31, h⟩ := bind_some h
       obtain ⟨ad31, cs31, hr31, hc31, hR⟩ := reads_index (Mo := []) tsl57 hf9_1 hx31
       obtain ⟨a32, c32, rfl, hs32⟩ := hR
       refine x_indexAddr (xv := Vl a0_9 x8 c0_9) (yv := Vi x29) (.pointer (some ad31)) rfl rfl rfl rfl hr31 (x_load (xv := .pointer (some ad31)) (Vl a32 x31 c32) rfl rfl rfl (reads_cell0 tcell22 hc31 (fun _ h => by cases h)) ?_)
       refine x_u 1 [(75, Vi x26)] ?_
       obtain ⟨x35, hx35, h⟩ := bind_some h
       obtain ⟨ad35, cs35, hr35, hc35, hR⟩ := reads_index (Mo := []) tsl22 hs32 hx35
       obtain rfl := hR
       refine x_indexAddr (xv := Vl a32 x31 c32) (yv := Vi x26) (.pointer (some ad35)) rfl rfl rfl rfl hr35 (x_load (xv := .pointer (some ad35)) (Vi x35) rfl rfl rfl (reads_cell0 tcell3 hc35 (fun _ h => by cases h)) ?_)
       refine x_u 3 [(78, Vi (IntKind.i64.wrap (x35 - 1))), (79, Vi (IntKind.i64.wrap (bound_s10_l24 + (IntKind.i64.wrap (x35 - 1))))), (10, Vi (IntKind.i64.wrap (bound_s10_l24 + (IntKind.i64.wrap (x35 - 1)))))] (x_end rfl ?_)
       exact k_then ⟨IntKind.i64.wrap (bound_s10_l24 + (IntKind.i64.wrap (x35 - 1))), ⟨rfl, rfl, rfl, rfl, rfl, rfl, rfl, rfl, trivial⟩, h, hev, hms, hfr, hs_p1, hs_p0_0, hb3, hf9_1⟩
     refine c_skip ?_
     exact k_then ⟨bound_s10_l24, ⟨rfl, rfl, rfl, rfl, rfl, rfl, rfl, rfl, trivial⟩, h, hev, hms, hfr, hs_p1, hs_p0_0, hb3, hf9_1⟩
   rintro bound_s10_j28 J wj28 ⟨h, hev, hms, hfr, hs_p1, hs_p0_0, hb3, hf9_1⟩
   refine c_seq (c_drawn [] [(0, false), (1, false), (2, false), (3, false), (4, false), (5, false), (6, false), (7, false), (8, false), (9, true), (10, false), (11, false), (12, false), (13, false), (14, false)] _ (by kernel_rfl) rfl ?_)
   have hst := Stp.ext (ls := [[b3], M]) (Ev.drew wj28)
   replace hs_p1 := hs_p1.step hst
   replace hb3 := (Ev.drew wj28).box hb3 nn
   replace hs_p0_0 := hs_p0_0.step hst
   replace hf9_1 := hf9_1.step hst
   replace hms := hms.ev (Ev.drew wj28)
   replace hev := hev.ext (Ev.drew wj28)
   refine x_u 1 [(81, Vi bound_s10_j28)] (x_fieldAddr (xv := Vp b3 0) (Vp b3 0) rfl rfl rfl (reads_field tfld50_0 _ _) (x_load (xv := Vp b3 0) (Vl a_p0_0 p0_0 c_p0_0) rfl rfl rfl (reads_box tcell36 hb3 nn 0 _ rfl) (x_u 1 [(84, Vi x26)] ?_)))
   obtain ⟨x37, hx37, h⟩ := bind_some h
   obtain ⟨ad37, cs37, hr37, hc37, hR⟩ := reads_index (Mo := []) tsl36 hs_p0_0 hx37
   obtain ⟨_, _, rfl, rfl, ⟨_, _, rfl, rfl, ⟨_, _, rfl, rfl, rfl⟩⟩⟩ := hR
   refine x_indexAddr (xv := Vl a_p0_0 p0_0 c_p0_0) (yv := Vi x26) (.pointer (some ad37)) rfl rfl rfl rfl hr37 (x_fieldAddr (xv := .pointer (some ad37)) (.pointer (some (Addr.add ad37 2))) rfl rfl rfl (reads_field tfld76_2 _ _) (x_load (xv := .pointer (some (Addr.add ad37 2))) (Vi x37.2.2.1) rfl rfl rfl (reads_cell tcell3 hc37 (fun _ h => by cases h) 2 _ rfl) ?_))
   refine x_fieldAddr (xv := Vp b3 0) (Vp b3 1) rfl rfl rfl (reads_field tfld50_1 _ _) (x_load (xv := Vp b3 1) (Vi p0_1) rfl rfl rfl (reads_box tcell3 hb3 nn 1 _ rfl) ?_)
   obtain ⟨x39, hx, h⟩ := bind_some h
   have hcall := code_Next_w bound_s10_j28 x37.2.2.1 p0_1 _ (wj28).drew hx
   refine x_call 111 #[] #[] [Vi bound_s10_j28, Vi x37.2.2.1, Vi p0_1] _ rfl rfl rfl rfl hcall ?_
   rintro v w40 ⟨rfl, he40⟩
   clear hcall hx
   refine inl1 ?_
   have hst := Stp.ext (ls := [[b3], M]) he40
   replace hs_p1 := hs_p1.step hst
   replace hb3 := he40.box hb3 nn
   replace hs_p0_0 := hs_p0_0.step hst
   replace hf9_1 := hf9_1.step hst
   replace hms := hms.ev he40
   replace hev := hev.ext he40
   refine x_u 5 [(80, .tuple #[Vi x39.1, Vi x39.2]), (91, Vi x39.1), (92, Vi x39.2), (13, Vi x39.1), (14, Vi x39.2)] (x_ek (c_nm [(1, Vl a_p1 p1 c_p1), (2, Vp b3 0), (7, Vl a0_9 x8 c0_9), (13, Vi x39.1), (14, Vi x39.2), (57, Vl a_p1 p1 c_p1), (58, Vi ((p1).length : Int)), (59, Vi t59__s59_l24)] (fun J => ?_)))
   refine c_seq (c_sp (x_u 2 [(93, Vi x39.2), (94, .bool (x39.2 != 0))] (x_ek (c_if (x39.2 != 0) rfl h (fun h => ?_) (fun h => ?_)))))
   · refine c_sp (x_u 3 [(95, Vi x39.2), (4, Vi 0), (5, Vi x39.2)] (x_ek (c_ret (k_then_ret (k_block_ret ?_)))))
     refine k_then_ret ?_
     obtain rfl := some_inj h
     have hy := some_inj hn24
     subst hy
     replace h := h24
     refine k_then_ret (k_block_ret (k_then_ret (r_ret (r_vals [Vi 0, Vi x39.2] ⟨rfl, rfl, trivial⟩ ?_))))
     obtain rfl := some_inj h
     exact ⟨rfl, hev⟩
   refine c_skip (k_then (c_plain (x_u 2 [(96, Vi x39.1), (10, Vi x39.1)] (x_end rfl (k_block ?_)))))
   refine k_then (c_plain (x_u 2 [(97, Vi (IntKind.i64.wrap (t59__s59_l24 + 1))), (59, Vi (IntKind.i64.wrap (t59__s59_l24 + 1)))] (x_end rfl ?_)))
   obtain rfl := some_inj h
   exact k_then ⟨(m24, x39.1, IntKind.i64.wrap (t59__s59_l24 + 1)), ⟨rfl, rfl, rfl, rfl, rfl, rfl, rfl, trivial⟩, ⟨hn24, hev, hms, hfr, hs_p1, hs_p0_0, hb3, hf9_1⟩, Nat.lt_succ_self _⟩
 refine c_exit (k_then_exit ?_)
 obtain rfl := some_inj h
 have hy := some_inj hn24
 subst hy
 replace h := h24
 refine k_then_exit (k_block_in (k_then (c_nm [(10, Vi bound_s10_l24)] (fun J => ?_))))
 refine c_sp (x_u 3 [(98, Vi bound_s10_l24), (4, Vi bound_s10_l24), (5, Vi 0)] (x_ek (c_ret (r_ret (r_vals [Vi bound_s10_l24, Vi 0] ⟨rfl, rfl, trivial⟩ ?_)))))
 obtain rfl := some_inj h
 exact ⟨rfl, hev⟩
end Go.Proofs.YtlejnkhaphlooaaGreat
