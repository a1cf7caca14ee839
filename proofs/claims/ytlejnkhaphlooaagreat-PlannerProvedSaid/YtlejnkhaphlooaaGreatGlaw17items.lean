
/- Walks, printed by program: each function returns what the partial function of the same name returns. Conditions: those of each theorem. -/
import Derived.Test.YtlejnkhaphlooaaGreatGT
set_option linter.unusedVariables false
set_option linter.unusedSimpArgs false
set_option maxRecDepth 4000
namespace Go.Proofs.YtlejnkhaphlooaaGreat
open Go Go.V Go.Proofs
def law17_items_L2 (p0 : List Int) (s : (List (Int × Int × Int × Int)) × Int) : Option (Step ((List (Int × Int × Int × Int)) × Int) (List (Int × Int × Int × Int))) :=
match s with
| (d4_l2, t8__s8_l2) =>
(if (decide (t8__s8_l2 < ((p0).length : Int))) = true then
((idx p0 t8__s8_l2).bind fun x6 =>
(if d4_l2.length + ([(0, x6, 0, 100)] : List (Int × Int × Int × Int)).length ≤ 4294967296 then
some (.next ((d4_l2 ++ ([(0, x6, 0, 100)] : List (Int × Int × Int × Int))), IntKind.i64.wrap (t8__s8_l2 + 1)))
else none))
else
some (.done d4_l2))
def law17_items (p0 : List Int) : Option (List (Int × Int × Int × Int)) :=
((loop (law17_items_L2 p0) (([] : List (Int × Int × Int × Int)), 0)).bind fun d => match d with
| d4_x2 => some d4_x2)
theorem law17_items_w (a_p0 : Option Addr) (c_p0 : Nat) (p0 : List Int) (r : (List (Int × Int × Int × Int))) (w : World) (M : List Nat) (hms : MS w [M]) (hs_p0 : SlR (eInt .i64) w (fl [M]) a_p0 c_p0 p0) (h : law17_items p0 = some r) : CallVC Tryz.prog 30 [Vl a_p0 p0 c_p0] w fun v w' => ∃ (a0' : Option Addr), ∃ (c0' : Nat), v = Vl a0' r c0' ∧ Ev [] w w' ∧ MS w' [blk a0', M] ∧ FR w.heap.size [blk a0'] ∧ OwnS (eIt4) 76 w' (fl [blk a0', M]) a0' c0' r := by
 refine calls_vc hmx Tryz.func30 (by kernel_rfl) rfl (rs := [.tmp 2]) rfl (by kernel_rfl) (args := [Vl a_p0 p0 c_p0]) rfl ?_
 have hev : Ev [] w w := Ev.refl _ _
 have hfr : FR w.heap.size [] := FR.nil _
 refine c_sp (x_u 1 [(2, .slice none 0 0)] (x_ek (c_sp (x_u 1 [(3, .slice none 0 0)] (x_ek ?_)))))
 refine c_seq (c_sp (x_u 1 [(6, Vl a_p0 p0 c_p0)] (x_len (vs := [Vl a_p0 p0 c_p0]) (Vi ((p0).length : Int)) rfl rfl rfl (reads_len tsl22 _ _ _ _ _) (x_u 1 [(8, Vi 0)] (x_ek ?_)))))
 refine c_block ?_
 have hst := Stp.push (ls := [M]) (l := blk none) (Ev.refl [] w) (fun _ h => by cases h) (fun _ h => by cases h)
 replace hs_p0 := hs_p0.step hst
 replace hms := hms.push (l := blk none) (Ev.refl [] _) (fun _ h => by cases h)
 replace hfr := hfr.push (l := blk none) (fun _ h => by cases h)
 have ho3 := OwnS.nil (eIt4) 76 w (fl [blk none, M])
 obtain ⟨d2, hd2, h2⟩ := bind_some h
 obtain ⟨m2, hd2⟩ := loop_some hd2
 refine c_loop (loop_rule hmx (σ := Nat × (List (Int × Int × Int × Int)) × Int × Option Addr × Nat) (fun s => match s with | (_, d4_l2, t8__s8_l2, a4_l2, c4_l2) => [(3, Vl a4_l2 d4_l2 c4_l2), (6, Vl a_p0 p0 c_p0), (7, Vi ((p0).length : Int)), (8, Vi t8__s8_l2)]) (fun s w' => match s with | (m, d4_l2, t8__s8_l2, a4_l2, c4_l2) => loopN (law17_items_L2 p0) m (d4_l2, t8__s8_l2) = some d2 ∧ Ev [] w w' ∧ MS w' [blk a4_l2, M] ∧ FR w.heap.size [blk a4_l2] ∧ OwnS (eIt4) 76 w' (fl [blk a4_l2, M]) a4_l2 c4_l2 d4_l2 ∧ SlR (eInt .i64) w' (fl [blk a4_l2, M]) a_p0 c_p0 p0) (fun s => s.1) (m2, ([] : List (Int × Int × Int × Int)), 0, none, 0) ⟨rfl, rfl, rfl, rfl, trivial⟩ ⟨hd2, hev, hms, hfr, ho3, hs_p0⟩ ?_)
 rintro ⟨m2, d4_l2, t8__s8_l2, a4_l2, c4_l2⟩ J wl2 ⟨hn2, hev, hms, hfr, hj4_l2, hs_p0⟩
 rcases m2 with _ | m2
 · exact (loopN_zero hn2).elim
 obtain ⟨t2, h, hn2⟩ := bind_some hn2
 refine c_sp (x_u 1 [(9, .bool (decide (t8__s8_l2 < ((p0).length : Int))))] (x_ek (c_nm [(3, Vl a4_l2 d4_l2 c4_l2), (6, Vl a_p0 p0 c_p0), (7, Vi ((p0).length : Int)), (8, Vi t8__s8_l2), (9, .bool (decide (t8__s8_l2 < ((p0).length : Int))))] (fun J => ?_))))
 refine c_seq (c_if (decide (t8__s8_l2 < ((p0).length : Int))) rfl h (fun h => ?_) (fun h => ?_))
 · refine c_skip (k_then (c_seq (c_block (c_sp ?_))))
   obtain ⟨x6, hx6, h⟩ := bind_some h
   obtain ⟨ad6, cs6, hr6, hc6, hR⟩ := reads_index (Mo := []) tsl22 hs_p0 hx6
   obtain rfl := hR
   refine x_indexAddr (xv := Vl a_p0 p0 c_p0) (yv := Vi t8__s8_l2) (.pointer (some ad6)) rfl rfl rfl rfl hr6 (x_load (xv := .pointer (some ad6)) (Vi x6) rfl rfl rfl (reads_cell0 tcell3 hc6 (fun _ h => by cases h)) ?_)
   refine x_u 1 [(5, Vi x6)] (x_ek (c_plain (x_u 2 [(12, Vl a4_l2 d4_l2 c4_l2), (13, Vi x6)] (x_build (vs := [(1, Vi x6), (3, Vi 100)]) (.agg #[Vi 0, Vi x6, Vi 0, Vi 100]) rfl rfl rfl (fun _ _ => by kernel_rfl) ?_))))
   refine x_buildSlice (vs := [(0, .agg #[Vi 0, Vi x6, Vi 0, Vi 100])]) #[Vi 0, Vi x6, Vi 0, Vi 100] 76 rfl rfl rfl (by kernel_rfl) (fun b8 w8 hq8 hb8 he8 hz8 => ?_)
   refine inl1 ?_
   have hms0 := hms
   have hst := Stp.ext (ls := [blk a4_l2, M]) he8
   replace hj4_l2 := hj4_l2.step hst he8 nn2
   replace hs_p0 := hs_p0.step hst
   replace hms := hms.ev he8
   replace hev := hev.ext he8
   have hs8 : SlR (eIt4) w8 (fl [blk a4_l2, M]) (Ad b8 0) 1 ([(0, x6, 0, 100)] : List (Int × Int × Int × Int)) := ro_of_box hms0 hq8 hb8 rfl rfl (cells_at (cs := [Vi 0, Vi x6, Vi 0, Vi 100]) (CellsOf.cons (c := [Vi 0, Vi x6, Vi 0, Vi 100]) ⟨[Vi 0], [Vi x6, Vi 0, Vi 100], rfl, rfl, ⟨[Vi x6], [Vi 0, Vi 100], rfl, rfl, ⟨[Vi 0], [Vi 100], rfl, rfl, rfl⟩⟩⟩ CellsOf.nil))
   clear hb8 hms0
   have hg := guard_l h
   replace h := guard_r h
   obtain ⟨a10, c10, w10, hr10, he10, hn10, hm10, hw10⟩ := own_appendN tel36 36 hj4_l2 (mem_flat 0 rfl) hs8 hg
   refine x_builtin (vs := [Vl a4_l2 d4_l2 c4_l2, .slice (Ad b8 0) (([(0, x6, 0, 100)] : List (Int × Int × Int × Int))).length 1]) _ w10 rfl rfl rfl rfl (run_value _ _ _ _ hr10) (inl1 ?_)
   have hst : Stp (fl [blk a4_l2, M]) w8 (fl [blk a10, M]) w10 := Stp.upd 0 he10 rfl (fun b hb => (hn10 b hb).1)
   replace hs_p0 := hs_p0.step hst
   replace hms : MS w10 [blk a10, M] := hms.upd 0 he10 rfl hn10
   have hfr2 : FR w.heap.size [blk a10] := hfr.upd 0 rfl hev.size (fun b hb => (hn10 b hb).1)
   replace hev := hev.then he10 (fun b hb => .inr (hfr.at 0 rfl b hb))
   replace hfr := hfr2
   clear hfr2
   replace hj4_l2 := hw10 (fl [blk a10, M]) hst.new
   clear hw10
   refine x_u 1 [(3, .slice a10 ((d4_l2 ++ ([(0, x6, 0, 100)] : List (Int × Int × Int × Int)))).length c10)] (x_end rfl (k_block (k_then (c_plain (x_u 2 [(17, Vi (IntKind.i64.wrap (t8__s8_l2 + 1))), (8, Vi (IntKind.i64.wrap (t8__s8_l2 + 1)))] ?_)))))
   refine x_end rfl ?_
   obtain rfl := some_inj h
   exact k_then ⟨(m2, (d4_l2 ++ ([(0, x6, 0, 100)] : List (Int × Int × Int × Int))), IntKind.i64.wrap (t8__s8_l2 + 1), a10, c10), ⟨rfl, rfl, rfl, rfl, trivial⟩, ⟨hn2, hev, hms, hfr, hj4_l2, hs_p0⟩, Nat.lt_succ_self _⟩
 refine c_exit (k_then_exit ?_)
 obtain rfl := some_inj h
 have hy := some_inj hn2
 subst hy
 replace h := h2
 refine k_then_exit (k_block_in (k_then (c_nm [(3, Vl a4_l2 d4_l2 c4_l2)] (fun J => ?_))))
 refine c_sp (x_u 2 [(18, Vl a4_l2 d4_l2 c4_l2), (2, Vl a4_l2 d4_l2 c4_l2)] (x_ek (c_ret (r_ret (r_vals [Vl a4_l2 d4_l2 c4_l2] ⟨rfl, trivial⟩ ?_)))))
 obtain rfl := some_inj h
 have hmr := hms.pick [some 0, some 1] [blk a4_l2, M] rfl
 have hsu := pick_sub (ls := [blk a4_l2, M]) [some 0, some 1] [blk a4_l2, M] rfl
 have hfe := hfr.pick [some 0] [blk a4_l2] rfl
 exact ⟨a4_l2, c4_l2, rfl, hev, hmr, hfe, hj4_l2.sub hsu⟩
end Go.Proofs.YtlejnkhaphlooaaGreat
