
/- Walks, printed by program: each function returns what the partial function of the same name returns. Conditions: those of each theorem. -/
import Derived.Test.YtlejnkhaphlooaaGreatGT
import Derived.Test.YtlejnkhaphlooaaGreatGgen
set_option linter.unusedVariables false
set_option linter.unusedSimpArgs false
set_option maxRecDepth 4000
namespace Go.Proofs.YtlejnkhaphlooaaGreat
open Go Go.V Go.Proofs
def law17_tracks_L5 (p0_0 : List Int) (s : Int × (List Int) × Int) : Option (Step (Int × (List Int) × Int) (Int × (List Int))) :=
match s with
| (e2_l5_1, d7_l5, i_s4_l5) =>
(if (decide (i_s4_l5 > 0)) = true then
((gen_Maker_Pick p0_0 e2_l5_1 ([300, 500, 900, 1500, 4000])).bind fun x11 =>
(if d7_l5.length + ([x11.1]).length ≤ 4294967296 then
some (.next (x11.2, (d7_l5 ++ [x11.1]), IntKind.i64.wrap (i_s4_l5 - 1)))
else none))
else
some (.done (e2_l5_1, d7_l5)))
def law17_tracks (p0_0 : List Int) (p0_1 : Int) : Option ((List Int) × Int) :=
((gen_Maker_From p0_0 p0_1 1 10).bind fun x3 =>
((loop (law17_tracks_L5 p0_0) (x3.2, ([] : List Int), x3.1)).bind fun d => match d with
| (e2_x5_1, d7_x5) => some (d7_x5, e2_x5_1)))
theorem law17_tracks_w (b_p0 : Nat) (a_p0_0 : Option Addr) (c_p0_0 : Nat) (p0_0 : List Int) (p0_1 : Int) (r : (List Int) × Int) (w : World) (M : List Nat) (hms : MS w [[b_p0], M]) (hs_p0_0 : SlR (eInt .i64) w (fl [[b_p0], M]) a_p0_0 c_p0_0 p0_0) (hb_p0 : w.heap[b_p0]? = some (.cells #[Vl a_p0_0 p0_0 c_p0_0, Vi p0_1] 90 (0, 0))) (h : law17_tracks p0_0 p0_1 = some r) : CallVC Tryz.prog 24 [Vp b_p0 0] w fun v w' => ∃ (a0' : Option Addr), ∃ (c0' : Nat), v = Vl a0' r.1 c0' ∧ Ev [b_p0] w w' ∧ w'.heap[b_p0]? = some (.cells #[Vl a_p0_0 p0_0 c_p0_0, Vi r.2] 90 (0, 0)) ∧ MS w' [blk a0', [b_p0], M] ∧ FR w.heap.size [blk a0'] ∧ OwnS (eInt .i64) 3 w' (fl [blk a0', [b_p0], M]) a0' c0' r.1 := by
 refine calls_vc hmx Tryz.func24 (by kernel_rfl) rfl (rs := [.tmp 2]) rfl (by kernel_rfl) (args := [Vp b_p0 0]) rfl ?_
 have hev : Ev [b_p0] w w := Ev.refl _ _
 have hfr : FR w.heap.size [] := FR.nil _
 refine c_sp (x_u 1 [(2, .slice none 0 0)] (x_ek (c_sp (x_u 1 [(3, .slice none 0 0)] (x_ek ?_)))))
 refine c_seq (c_sp (x_u 1 [(5, Vp b_p0 0)] ?_))
 obtain ⟨x3, hx, h⟩ := bind_some h
 have hpk : MS w ([[b_p0]] ++ [M]) := hms.pick [some 0, some 1] _ rfl
 have hsb0 : ∀ x ∈ fl ([[b_p0]] ++ [M]), x ∈ fl [[b_p0], M] := pick_sub [some 0, some 1] _ rfl
 have hsb : ∀ x ∈ fl ([[b_p0]] ++ [(fl [M])]), x ∈ fl [[b_p0], M] := fun x hx => hsb0 x (fl_unfold x hx)
 have hcall := gen_Maker_From_w b_p0 a_p0_0 c_p0_0 p0_0 p0_1 1 10 _ w (fl [M]) (hpk.fold (P := [[b_p0]])) (hs_p0_0.sub hsb) hb_p0 hx
 refine x_call 37 #[] #[] [Vp b_p0 0, Vi 1, Vi 10] _ rfl rfl rfl rfl hcall ?_
 rintro v w4 ⟨rfl, he4, hp4_0⟩
 clear hcall hx
 refine inl1 ?_
 have hsb2 : ∀ x ∈ fl ([[b_p0]] ++ [M]), x ∈ fl [[b_p0], M] := pick_sub [some 0, some 1] _ rfl
 have hst0 := Stp.call (LS := [[b_p0], M]) (res := []) (par := [[b_p0]]) (R := [M]) he4 (fun b hb => hsb2 b (fl_left' (P := [[b_p0]]) b hb)) (FR.nil _) (NP.init _ _) (fun x hx => hsb2 x (fl_right' (P := [[b_p0]]) x hx))
 have hsn : ∀ x ∈ fl [[b_p0], M], x ∈ fl ([] ++ ([[b_p0]] ++ [M])) := pick_sub [some 0, some 1] _ rfl
 have hst := hst0.res hsn
 replace hs_p0_0 := hs_p0_0.step hst
 replace hms := hms.ev he4
 replace hev := hev.then he4 (fun b hb => .inl (by simpa using hb))
 replace hb_p0 := hp4_0
 clear hpk hsb hsb0 hsb2 hst0 hsn hst
 refine x_u 1 [(4, Vi x3.1)] (x_ek (c_block ?_))
 have hst := Stp.push (ls := [[b_p0], M]) (l := blk none) (Ev.refl [] w4) (fun _ h => by cases h) (fun _ h => by cases h)
 replace hs_p0_0 := hs_p0_0.step hst
 replace hb_p0 := (Ev.refl [] _).box hb_p0 nn
 replace hms := hms.push (l := blk none) (Ev.refl [] _) (fun _ h => by cases h)
 replace hfr := hfr.push (l := blk none) (fun _ h => by cases h)
 have ho6 := OwnS.nil (eInt .i64) 3 w4 (fl [blk none, [b_p0], M])
 obtain ⟨d5, hd5, h5⟩ := bind_some h
 obtain ⟨m5, hd5⟩ := loop_some hd5
 refine c_loop (loop_rule hmx (σ := Nat × Int × (List Int) × Int × Option Addr × Nat) (fun s => match s with | (_, e2_l5_1, d7_l5, i_s4_l5, a7_l5, c7_l5) => [(0, Vp b_p0 0), (3, Vl a7_l5 d7_l5 c7_l5), (4, Vi i_s4_l5)]) (fun s w' => match s with | (m, e2_l5_1, d7_l5, i_s4_l5, a7_l5, c7_l5) => loopN (law17_tracks_L5 p0_0) m (e2_l5_1, d7_l5, i_s4_l5) = some d5 ∧ Ev [b_p0] w w' ∧ MS w' [blk a7_l5, [b_p0], M] ∧ FR w.heap.size [blk a7_l5] ∧ SlR (eInt .i64) w' (fl [blk a7_l5, [b_p0], M]) a_p0_0 c_p0_0 p0_0 ∧ w'.heap[b_p0]? = some (.cells #[Vl a_p0_0 p0_0 c_p0_0, Vi e2_l5_1] 90 (0, 0)) ∧ OwnS (eInt .i64) 3 w' (fl [blk a7_l5, [b_p0], M]) a7_l5 c7_l5 d7_l5) (fun s => s.1) (m5, x3.2, ([] : List Int), x3.1, none, 0) ⟨rfl, rfl, rfl, trivial⟩ ⟨hd5, hev, hms, hfr, hs_p0_0, hb_p0, ho6⟩ ?_)
 rintro ⟨m5, e2_l5_1, d7_l5, i_s4_l5, a7_l5, c7_l5⟩ J wl5 ⟨hn5, hev, hms, hfr, hs_p0_0, hb_p0, hj7_l5⟩
 rcases m5 with _ | m5
 · exact (loopN_zero hn5).elim
 obtain ⟨t5, h, hn5⟩ := bind_some hn5
 refine c_seq (c_sp (x_u 2 [(7, Vi i_s4_l5), (8, .bool (decide (i_s4_l5 > 0)))] (x_ek (c_nm [(0, Vp b_p0 0), (3, Vl a7_l5 d7_l5 c7_l5), (4, Vi i_s4_l5), (8, .bool (decide (i_s4_l5 > 0)))] (fun J => ?_)))))
 refine c_if (decide (i_s4_l5 > 0)) rfl h (fun h => ?_) (fun h => ?_)
 · refine c_skip (k_then (c_seq (c_block (c_plain (x_u 2 [(11, Vl a7_l5 d7_l5 c7_l5), (12, Vp b_p0 0)] ?_)))))
   refine x_buildSlice (vs := [(0, Vi 300), (1, Vi 500), (2, Vi 900), (3, Vi 1500), (4, Vi 4000)]) #[Vi 300, Vi 500, Vi 900, Vi 1500, Vi 4000] 3 rfl rfl rfl (by kernel_rfl) (fun b9 w9 hq9 hb9 he9 hz9 => ?_)
   refine inl1 ?_
   have hms0 := hms
   have hst := Stp.ext (ls := [blk a7_l5, [b_p0], M]) he9
   replace hb_p0 := he9.box hb_p0 nn
   replace hs_p0_0 := hs_p0_0.step hst
   replace hj7_l5 := hj7_l5.step hst he9 nn2
   replace hms := hms.ev he9
   replace hev := hev.ext he9
   have hs9 : SlR (eInt .i64) w9 (fl [blk a7_l5, [b_p0], M]) (Ad b9 0) 5 ([300, 500, 900, 1500, 4000]) := ro_of_box hms0 hq9 hb9 rfl rfl (cells_at (cs := [Vi 300, Vi 500, Vi 900, Vi 1500, Vi 4000]) (CellsOf.cons (c := [Vi 300]) rfl (CellsOf.cons (c := [Vi 500]) rfl (CellsOf.cons (c := [Vi 900]) rfl (CellsOf.cons (c := [Vi 1500]) rfl (CellsOf.cons (c := [Vi 4000]) rfl CellsOf.nil))))))
   clear hb9 hms0
   obtain ⟨x11, hx, h⟩ := bind_some h
   have hpk : MS w9 ([[b_p0]] ++ [blk a7_l5, M]) := hms.pick [some 1, some 0, some 2] _ rfl
   have hsb0 : ∀ x ∈ fl ([[b_p0]] ++ [blk a7_l5, M]), x ∈ fl [blk a7_l5, [b_p0], M] := pick_sub [some 1, some 0, some 2] _ rfl
   have hsb : ∀ x ∈ fl ([[b_p0]] ++ [(fl [blk a7_l5, M])]), x ∈ fl [blk a7_l5, [b_p0], M] := fun x hx => hsb0 x (fl_unfold x hx)
   have hcall := gen_Maker_Pick_w b_p0 a_p0_0 c_p0_0 p0_0 e2_l5_1 (Ad b9 0) 5 ([300, 500, 900, 1500, 4000]) _ w9 (fl [blk a7_l5, M]) (hpk.fold (P := [[b_p0]])) (hs_p0_0.sub hsb) hb_p0 (hs9.sub hsb) hx
   refine x_call 26 #[] #[] [Vp b_p0 0, .slice (Ad b9 0) ([300, 500, 900, 1500, 4000]).length 5] _ rfl rfl rfl rfl hcall ?_
   rintro v w12 ⟨rfl, he12, hp12_0⟩
   clear hcall hx
   refine inl1 ?_
   have hpk2 : MS w9 ([[b_p0]] ++ [blk a7_l5, M]) := hms.pick [some 1, some 0, some 2] _ rfl
   have hsb2 : ∀ x ∈ fl ([[b_p0]] ++ [blk a7_l5, M]), x ∈ fl [blk a7_l5, [b_p0], M] := pick_sub [some 1, some 0, some 2] _ rfl
   have hst0 := Stp.call (LS := [blk a7_l5, [b_p0], M]) (res := []) (par := [[b_p0]]) (R := [blk a7_l5, M]) he12 (fun b hb => hsb2 b (fl_left' (P := [[b_p0]]) b hb)) (FR.nil _) (NP.init _ _) (fun x hx => hsb2 x (fl_right' (P := [[b_p0]]) x hx))
   have hsn : ∀ x ∈ fl [blk a7_l5, [b_p0], M], x ∈ fl ([] ++ ([[b_p0]] ++ [blk a7_l5, M])) := pick_sub [some 1, some 0, some 2] _ rfl
   have hst := hst0.res hsn
   replace hs_p0_0 := hs_p0_0.step hst
   replace hj7_l5 := hj7_l5.step hst he12 (MS.outs (P := [[b_p0]]) hpk2 0 rfl)
   replace hms := hms.ev he12
   replace hev := hev.then he12 (fun b hb => .inl (by simpa using hb))
   replace hb_p0 := hp12_0
   clear hpk hsb hsb0 hpk2 hsb2 hst0 hsn hst
   refine x_buildSlice (vs := [(0, Vi x11.1)]) #[Vi x11.1] 3 rfl rfl rfl (by kernel_rfl) (fun b13 w13 hq13 hb13 he13 hz13 => ?_)
   refine inl1 ?_
   have hms0 := hms
   have hst := Stp.ext (ls := [blk a7_l5, [b_p0], M]) he13
   replace hb_p0 := he13.box hb_p0 nn
   replace hs_p0_0 := hs_p0_0.step hst
   replace hj7_l5 := hj7_l5.step hst he13 nn2
   replace hms := hms.ev he13
   replace hev := hev.ext he13
   have hs13 : SlR (eInt .i64) w13 (fl [blk a7_l5, [b_p0], M]) (Ad b13 0) 1 ([x11.1]) := ro_of_box hms0 hq13 hb13 rfl rfl (cells_at (cs := [Vi x11.1]) (CellsOf.cons (c := [Vi x11.1]) rfl CellsOf.nil))
   clear hb13 hms0
   have hg := guard_l h
   replace h := guard_r h
   obtain ⟨a15, c15, w15, hr15, he15, hn15, hm15, hw15⟩ := own_appendN tel22 22 hj7_l5 (mem_flat 0 rfl) hs13 hg
   refine x_builtin (vs := [Vl a7_l5 d7_l5 c7_l5, .slice (Ad b13 0) ([x11.1]).length 1]) _ w15 rfl rfl rfl rfl (run_value _ _ _ _ hr15) (inl1 ?_)
   have hst : Stp (fl [blk a7_l5, [b_p0], M]) w13 (fl [blk a15, [b_p0], M]) w15 := Stp.upd 0 he15 rfl (fun b hb => (hn15 b hb).1)
   replace hb_p0 := he15.box hb_p0 (hms.apart 1 0 rfl rfl rfl _ mem1)
   replace hs_p0_0 := hs_p0_0.step hst
   replace hms : MS w15 [blk a15, [b_p0], M] := hms.upd 0 he15 rfl hn15
   have hfr2 : FR w.heap.size [blk a15] := hfr.upd 0 rfl hev.size (fun b hb => (hn15 b hb).1)
   replace hev := hev.then he15 (fun b hb => .inr (hfr.at 0 rfl b hb))
   replace hfr := hfr2
   clear hfr2
   replace hj7_l5 := hw15 (fl [blk a15, [b_p0], M]) hst.new
   clear hw15
   refine x_u 1 [(3, .slice a15 ((d7_l5 ++ [x11.1])).length c15)] (x_end rfl (k_block (k_then (c_plain (x_u 3 [(9, Vi i_s4_l5), (10, Vi (IntKind.i64.wrap (i_s4_l5 - 1))), (4, Vi (IntKind.i64.wrap (i_s4_l5 - 1)))] ?_)))))
   refine x_end rfl ?_
   obtain rfl := some_inj h
   exact k_then ⟨(m5, x11.2, (d7_l5 ++ [x11.1]), IntKind.i64.wrap (i_s4_l5 - 1), a15, c15), ⟨rfl, rfl, rfl, trivial⟩, ⟨hn5, hev, hms, hfr, hs_p0_0, hb_p0, hj7_l5⟩, Nat.lt_succ_self _⟩
 refine c_exit (k_then_exit ?_)
 obtain rfl := some_inj h
 have hy := some_inj hn5
 subst hy
 replace h := h5
 refine k_then_exit (k_block_in (k_then (c_nm [(3, Vl a7_l5 d7_l5 c7_l5)] (fun J => ?_))))
 refine c_sp (x_u 2 [(17, Vl a7_l5 d7_l5 c7_l5), (2, Vl a7_l5 d7_l5 c7_l5)] (x_ek (c_ret (r_ret (r_vals [Vl a7_l5 d7_l5 c7_l5] ⟨rfl, trivial⟩ ?_)))))
 obtain rfl := some_inj h
 have hmr := hms.pick [some 0, some 1, some 2] [blk a7_l5, [b_p0], M] rfl
 have hsu := pick_sub (ls := [blk a7_l5, [b_p0], M]) [some 0, some 1, some 2] [blk a7_l5, [b_p0], M] rfl
 have hfe := hfr.pick [some 0] [blk a7_l5] rfl
 exact ⟨a7_l5, c7_l5, rfl, hev, hb_p0, hmr, hfe, hj7_l5.sub hsu⟩
end Go.Proofs.YtlejnkhaphlooaaGreat
