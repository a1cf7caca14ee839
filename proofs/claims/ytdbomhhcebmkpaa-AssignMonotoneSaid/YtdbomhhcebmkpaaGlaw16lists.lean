/- Walks, printed by program: each function returns what the partial function of the same name returns. Conditions: those of each theorem. -/
import Derived.Test.YtdbomhhcebmkpaaGT
import Derived.Test.YtdbomhhcebmkpaaGgen
set_option linter.unusedVariables false
set_option linter.unusedSimpArgs false
set_option maxRecDepth 4000
namespace Go.Proofs.Ytdbomhhcebmkpaa
open Go Go.V Go.Proofs
def law16_lists_L19 (p0_0 : List Int) (s : Int × (List Int) × Int) : Option (Step (Int × (List Int) × Int) (Int × (List Int))) :=
match s with
| (e2_l19_1, d21_l19, i_s9_l19) =>
(if (decide (i_s9_l19 > 0)) = true then
((gen_Maker_Pick p0_0 e2_l19_1 ([1, 5, 8, 8, 12, 20, 30])).bind fun x25 =>
(if d21_l19.length + ([x25.1]).length ≤ 4294967296 then
some (.next (x25.2, (d21_l19 ++ [x25.1]), IntKind.i64.wrap (i_s9_l19 - 1)))
else none))
else
some (.done (e2_l19_1, d21_l19)))

def law16_lists_L6 (p0_0 : List Int) (s : Int × (List Int) × Int) : Option (Step (Int × (List Int) × Int) (Int × (List Int))) :=
match s with
| (e2_l6_1, d8_l6, i_s8_l6) =>
(if (decide (i_s8_l6 > 0)) = true then
((gen_Maker_Pick p0_0 e2_l6_1 ([0, 1, 5, 8, 8, 12, 20])).bind fun x12 =>
(if d8_l6.length + ([x12.1]).length ≤ 4294967296 then
some (.next (x12.2, (d8_l6 ++ [x12.1]), IntKind.i64.wrap (i_s8_l6 - 1)))
else none))
else
some (.done (e2_l6_1, d8_l6)))

def law16_lists (p0_0 : List Int) (p0_1 : Int) (p1 : Int) : Option ((List Int) × (List Int) × Int) :=
((gen_Maker_Next p0_0 p0_1 (IntKind.i64.wrap (p1 + 1))).bind fun x4 =>
((loop (law16_lists_L6 p0_0) (x4.2, ([] : List Int), x4.1)).bind fun d => match d with
| (e2_x6_1, d8_x6) => ((gen_Maker_Next p0_0 e2_x6_1 (IntKind.i64.wrap (p1 + 3))).bind fun x17 =>
((loop (law16_lists_L19 p0_0) (x17.2, ([] : List Int), x17.1)).bind fun d => match d with
| (e2_x19_1, d21_x19) => some (d8_x6, d21_x19, e2_x19_1)))))

theorem law16_lists_w (b_p0 : Nat) (a_p0_0 : Option Addr) (c_p0_0 : Nat) (p0_0 : List Int) (p0_1 : Int) (p1 : Int) (r : (List Int) × (List Int) × Int) (w : World) (M : List Nat) (hms : MS w [[b_p0], M]) (hs_p0_0 : SlR (eInt .i64) w (fl [[b_p0], M]) a_p0_0 c_p0_0 p0_0) (hb_p0 : w.heap[b_p0]? = some (.cells #[.slice a_p0_0 (p0_0).length c_p0_0, Vi p0_1] 46 (0, 0))) (h : law16_lists p0_0 p0_1 p1 = some r) : CallVC Try.prog 13 [Vp b_p0 0, Vi p1] w fun v w' => ∃ (a0' : Option Addr), ∃ (c0' : Nat), ∃ (a2' : Option Addr), ∃ (c2' : Nat), v = .tuple #[.slice a0' (r.1).length c0', .slice a2' (r.2.1).length c2'] ∧ Ev [b_p0] w w' ∧ w'.heap[b_p0]? = some (.cells #[.slice a_p0_0 (p0_0).length c_p0_0, Vi r.2.2] 46 (0, 0)) ∧ MS w' [blk a0', blk a2', [b_p0], M] ∧ FR w.heap.size [blk a0', blk a2'] ∧ OwnS (eInt .i64) 3 w' (fl [blk a0', blk a2', [b_p0], M]) a0' c0' r.1 ∧ OwnS (eInt .i64) 3 w' (fl [blk a0', blk a2', [b_p0], M]) a2' c2' r.2.1 := by
 refine calls_vc hmx Try.func13 (by kernel_rfl) rfl (rs := [.tmp 4, .tmp 5]) rfl (by kernel_rfl) (args := [Vp b_p0 0, Vi p1]) rfl ?_
 have hev : Ev [b_p0] w w := Ev.refl _ _
 have hfr : FR w.heap.size [] := FR.nil _
 refine c_sp ?_
 refine x_pure 2 [(4, .slice none 0 0), (5, .slice none 0 0)] _ _ _ (by kernel_rfl) ?_
 refine x_ek ?_
 refine c_sp ?_
 refine x_pure 2 [(6, .slice none 0 0), (7, .slice none 0 0)] _ _ _ (by kernel_rfl) ?_
 refine x_ek ?_
 refine c_seq ?_
 refine c_sp ?_
 refine x_pure 3 [(10, Vp b_p0 0), (11, Vi p1), (12, Vi (IntKind.i64.wrap (p1 + 1)))] _ _ _ (by kernel_rfl) ?_
 obtain ⟨x4, hx, h⟩ := bind_some h
 have hpk : MS w ([[b_p0]] ++ [M]) := hms.pick [some 0, some 1] _ rfl
 have hsb0 : ∀ x ∈ fl ([[b_p0]] ++ [M]), x ∈ fl [[b_p0], M] := pick_sub [some 0, some 1] _ rfl
 have hsb : ∀ x ∈ fl ([[b_p0]] ++ [(fl [M])]), x ∈ fl [[b_p0], M] := fun x hx => hsb0 x (fl_unfold x hx)
 have hcall := gen_Maker_Next_w b_p0 a_p0_0 c_p0_0 p0_0 p0_1 (IntKind.i64.wrap (p1 + 1)) _ w (fl [M]) (hpk.fold (P := [[b_p0]])) (hs_p0_0.sub hsb) hb_p0 hx
 refine x_call 16 #[] #[] [Vp b_p0 0, Vi (IntKind.i64.wrap (p1 + 1))] _ rfl rfl rfl rfl hcall ?_
 rintro v w5 ⟨rfl, he5, hp5_0⟩
 clear hcall hx
 refine inl1 ?_
 have hpk2 : MS w ([[b_p0]] ++ [M]) := hms.pick [some 0, some 1] _ rfl
 have hsb2 : ∀ x ∈ fl ([[b_p0]] ++ [M]), x ∈ fl [[b_p0], M] := pick_sub [some 0, some 1] _ rfl
 have hst0 := Stp.call (LS := [[b_p0], M]) (res := []) (par := [[b_p0]]) (R := [M]) he5 (fun b hb => hsb2 b (fl_left' (P := [[b_p0]]) b hb)) (FR.nil _) (NP.init _ _) (fun x hx => hsb2 x (fl_right' (P := [[b_p0]]) x hx))
 have hsn : ∀ x ∈ fl [[b_p0], M], x ∈ fl ([] ++ ([[b_p0]] ++ [M])) := pick_sub [some 0, some 1] _ rfl
 have hst := hst0.res hsn
 replace hs_p0_0 := hs_p0_0.step hst
 replace hms := hms.ev he5
 replace hev := hev.then he5 (fun b hb => .inl (by simpa using hb))
 replace hb_p0 := hp5_0
 clear hpk hsb hsb0 hpk2 hsb2 hst0 hsn hst
 refine x_pure 1 [(8, Vi x4.1)] _ _ _ (by kernel_rfl) ?_
 refine x_ek ?_
 refine c_block ?_
 have hst := Stp.push (ls := [[b_p0], M]) (l := blk none) (Ev.refl [] w5) (fun _ h => by cases h) (fun _ h => by cases h)
 replace hs_p0_0 := hs_p0_0.step hst
 replace hb_p0 := (Ev.refl [] _).box hb_p0 nn
 replace hms := hms.push (l := blk none) (Ev.refl [] _) (fun _ h => by cases h)
 replace hfr := hfr.push (l := blk none) (fun _ h => by cases h)
 have ho7 := OwnS.nil (eInt .i64) 3 w5 (fl [blk none, [b_p0], M])
 obtain ⟨d6, hd6, h6⟩ := bind_some h
 obtain ⟨m6, hd6⟩ := loop_some hd6
 refine c_loop (loop_rule hmx (σ := Nat × Int × (List Int) × Int × Option Addr × Nat) (fun s => match s with | (_, e2_l6_1, d8_l6, i_s8_l6, a8_l6, c8_l6) => [(0, Vp b_p0 0), (1, Vi p1), (6, .slice a8_l6 (d8_l6).length c8_l6), (7, .slice none 0 0), (8, Vi i_s8_l6)]) (fun s w' => match s with | (m, e2_l6_1, d8_l6, i_s8_l6, a8_l6, c8_l6) => loopN (law16_lists_L6 p0_0) m (e2_l6_1, d8_l6, i_s8_l6) = some d6 ∧ Ev [b_p0] w w' ∧ MS w' [blk a8_l6, [b_p0], M] ∧ FR w.heap.size [blk a8_l6] ∧ SlR (eInt .i64) w' (fl [blk a8_l6, [b_p0], M]) a_p0_0 c_p0_0 p0_0 ∧ w'.heap[b_p0]? = some (.cells #[.slice a_p0_0 (p0_0).length c_p0_0, Vi e2_l6_1] 46 (0, 0)) ∧ OwnS (eInt .i64) 3 w' (fl [blk a8_l6, [b_p0], M]) a8_l6 c8_l6 d8_l6) (fun s => s.1) (m6, x4.2, ([] : List Int), x4.1, none, 0) ⟨rfl, rfl, rfl, rfl, rfl, trivial⟩ ⟨hd6, hev, hms, hfr, hs_p0_0, hb_p0, ho7⟩ ?_)
 rintro ⟨m6, e2_l6_1, d8_l6, i_s8_l6, a8_l6, c8_l6⟩ J wl6 ⟨hn6, hev, hms, hfr, hs_p0_0, hb_p0, hj8_l6⟩
 rcases m6 with _ | m6
 · exact (loopN_zero hn6).elim
 obtain ⟨t6, h, hn6⟩ := bind_some hn6
 refine c_seq ?_
 refine c_sp ?_
 refine x_pure 2 [(14, Vi i_s8_l6), (15, .bool (decide (i_s8_l6 > 0)))] _ _ _ (by kernel_rfl) ?_
 refine x_ek ?_
 refine c_norm [(0, Vp b_p0 0), (1, Vi p1), (6, .slice a8_l6 (d8_l6).length c8_l6), (7, .slice none 0 0), (8, Vi i_s8_l6), (15, .bool (decide (i_s8_l6 > 0)))] ⟨rfl, rfl, rfl, rfl, rfl, rfl, trivial⟩ (fun J => ?_)
 refine c_cond (decide (i_s8_l6 > 0)) rfl (fun hb => ?_) (fun hb => ?_)
 · replace h := ite_t hb h
   refine c_skip ?_
   refine k_then ?_
   refine c_seq ?_
   refine c_block ?_
   refine c_plain ?_
   refine x_pure 2 [(18, .slice a8_l6 (d8_l6).length c8_l6), (19, Vp b_p0 0)] _ _ _ (by kernel_rfl) ?_
   refine x_buildSlice (vs := [(0, Vi 0), (1, Vi 1), (2, Vi 5), (3, Vi 8), (4, Vi 8), (5, Vi 12), (6, Vi 20)]) #[Vi 0, Vi 1, Vi 5, Vi 8, Vi 8, Vi 12, Vi 20] 3 rfl rfl rfl (by kernel_rfl) (fun b10 w10 hq10 hb10 he10 hz10 => ?_)
   refine inl1 ?_
   have hms0 := hms
   have hst := Stp.ext (ls := [blk a8_l6, [b_p0], M]) he10
   replace hb_p0 := he10.box hb_p0 nn
   replace hs_p0_0 := hs_p0_0.step hst
   replace hj8_l6 := hj8_l6.step hst he10 nn2
   replace hms := hms.ev he10
   replace hev := hev.ext he10
   have hs10 : SlR (eInt .i64) w10 (fl [blk a8_l6, [b_p0], M]) (Ad b10 0) 7 ([0, 1, 5, 8, 8, 12, 20]) := ro_of_box hms0 hq10 hb10 rfl rfl (cells_at (cs := [Vi 0, Vi 1, Vi 5, Vi 8, Vi 8, Vi 12, Vi 20]) (CellsOf.cons (c := [Vi 0]) rfl (CellsOf.cons (c := [Vi 1]) rfl (CellsOf.cons (c := [Vi 5]) rfl (CellsOf.cons (c := [Vi 8]) rfl (CellsOf.cons (c := [Vi 8]) rfl (CellsOf.cons (c := [Vi 12]) rfl (CellsOf.cons (c := [Vi 20]) rfl CellsOf.nil))))))))
   clear hb10 hms0
   obtain ⟨x12, hx, h⟩ := bind_some h
   have hpk : MS w10 ([[b_p0]] ++ [blk a8_l6, M]) := hms.pick [some 1, some 0, some 2] _ rfl
   have hsb0 : ∀ x ∈ fl ([[b_p0]] ++ [blk a8_l6, M]), x ∈ fl [blk a8_l6, [b_p0], M] := pick_sub [some 1, some 0, some 2] _ rfl
   have hsb : ∀ x ∈ fl ([[b_p0]] ++ [(fl [blk a8_l6, M])]), x ∈ fl [blk a8_l6, [b_p0], M] := fun x hx => hsb0 x (fl_unfold x hx)
   have hcall := gen_Maker_Pick_w b_p0 a_p0_0 c_p0_0 p0_0 e2_l6_1 (Ad b10 0) 7 ([0, 1, 5, 8, 8, 12, 20]) _ w10 (fl [blk a8_l6, M]) (hpk.fold (P := [[b_p0]])) (hs_p0_0.sub hsb) hb_p0 (hs10.sub hsb) hx
   refine x_call 17 #[] #[] [Vp b_p0 0, .slice (Ad b10 0) ([0, 1, 5, 8, 8, 12, 20]).length 7] _ rfl rfl rfl rfl hcall ?_
   rintro v w13 ⟨rfl, he13, hp13_0⟩
   clear hcall hx
   refine inl1 ?_
   have hpk2 : MS w10 ([[b_p0]] ++ [blk a8_l6, M]) := hms.pick [some 1, some 0, some 2] _ rfl
   have hsb2 : ∀ x ∈ fl ([[b_p0]] ++ [blk a8_l6, M]), x ∈ fl [blk a8_l6, [b_p0], M] := pick_sub [some 1, some 0, some 2] _ rfl
   have hst0 := Stp.call (LS := [blk a8_l6, [b_p0], M]) (res := []) (par := [[b_p0]]) (R := [blk a8_l6, M]) he13 (fun b hb => hsb2 b (fl_left' (P := [[b_p0]]) b hb)) (FR.nil _) (NP.init _ _) (fun x hx => hsb2 x (fl_right' (P := [[b_p0]]) x hx))
   have hsn : ∀ x ∈ fl [blk a8_l6, [b_p0], M], x ∈ fl ([] ++ ([[b_p0]] ++ [blk a8_l6, M])) := pick_sub [some 1, some 0, some 2] _ rfl
   have hst := hst0.res hsn
   replace hs_p0_0 := hs_p0_0.step hst
   replace hj8_l6 := hj8_l6.step hst he13 (MS.outs (P := [[b_p0]]) hpk2 0 rfl)
   replace hs10 := hs10.step hst
   replace hms := hms.ev he13
   replace hev := hev.then he13 (fun b hb => .inl (by simpa using hb))
   replace hb_p0 := hp13_0
   clear hpk hsb hsb0 hpk2 hsb2 hst0 hsn hst
   refine x_buildSlice (vs := [(0, Vi x12.1)]) #[Vi x12.1] 3 rfl rfl rfl (by kernel_rfl) (fun b14 w14 hq14 hb14 he14 hz14 => ?_)
   refine inl1 ?_
   have hms0 := hms
   have hst := Stp.ext (ls := [blk a8_l6, [b_p0], M]) he14
   replace hb_p0 := he14.box hb_p0 nn
   replace hs_p0_0 := hs_p0_0.step hst
   replace hj8_l6 := hj8_l6.step hst he14 nn2
   replace hs10 := hs10.step hst
   replace hms := hms.ev he14
   replace hev := hev.ext he14
   have hs14 : SlR (eInt .i64) w14 (fl [blk a8_l6, [b_p0], M]) (Ad b14 0) 1 ([x12.1]) := ro_of_box hms0 hq14 hb14 rfl rfl (cells_at (cs := [Vi x12.1]) (CellsOf.cons (c := [Vi x12.1]) rfl CellsOf.nil))
   clear hb14 hms0
   have hg := guard_l h
   replace h := guard_r h
   obtain ⟨a16, c16, w16, hr16, he16, hn16, hm16, hw16⟩ := own_appendN tel22 22 hj8_l6 (mem_flat 0 rfl) hs14 hg
   refine x_builtin (vs := [.slice a8_l6 (d8_l6).length c8_l6, .slice (Ad b14 0) ([x12.1]).length 1]) _ w16 rfl rfl rfl rfl (run_value _ _ _ _ hr16) ?_
   refine inl1 ?_
   have hst : Stp (fl [blk a8_l6, [b_p0], M]) w14 (fl [blk a16, [b_p0], M]) w16 := Stp.upd 0 he16 rfl (fun b hb => (hn16 b hb).1)
   replace hb_p0 := he16.box hb_p0 (hms.apart 1 0 rfl rfl rfl _ mem1)
   replace hs_p0_0 := hs_p0_0.step hst
   replace hs10 := hs10.step hst
   replace hs14 := hs14.step hst
   replace hms : MS w16 [blk a16, [b_p0], M] := hms.upd 0 he16 rfl hn16
   have hfr2 : FR w.heap.size [blk a16] := hfr.upd 0 rfl hev.size (fun b hb => (hn16 b hb).1)
   replace hev := hev.then he16 (fun b hb => .inr (hfr.at 0 rfl b hb))
   replace hfr := hfr2
   clear hfr2
   replace hj8_l6 := hw16 (fl [blk a16, [b_p0], M]) hst.new
   clear hw16
   refine x_pure 1 [(6, .slice a16 ((d8_l6 ++ [x12.1])).length c16)] _ _ _ (by kernel_rfl) ?_
   refine x_end rfl ?_
   refine k_block ?_
   refine k_then ?_
   refine c_plain ?_
   refine x_pure 3 [(16, Vi i_s8_l6), (17, Vi (IntKind.i64.wrap (i_s8_l6 - 1))), (8, Vi (IntKind.i64.wrap (i_s8_l6 - 1)))] _ _ _ (by kernel_rfl) ?_
   refine x_end rfl ?_
   have hx := some_inj h
   subst hx
   exact k_then ⟨(m6, x12.2, (d8_l6 ++ [x12.1]), IntKind.i64.wrap (i_s8_l6 - 1), a16, c16), ⟨rfl, rfl, rfl, rfl, rfl, trivial⟩, ⟨hn6, hev, hms, hfr, hs_p0_0, hb_p0, hj8_l6⟩, Nat.lt_succ_self _⟩
 replace h := ite_f hb h
 refine c_exit ?_
 refine k_then_exit ?_
 have hx := some_inj h
 subst hx
 have hy := some_inj hn6
 subst hy
 replace h := h6
 refine k_then_exit ?_
 refine k_block_in ?_
 refine k_then ?_
 refine c_norm [(0, Vp b_p0 0), (1, Vi p1), (6, .slice a8_l6 (d8_l6).length c8_l6), (7, .slice none 0 0)] ⟨rfl, rfl, rfl, rfl, trivial⟩ (fun J => ?_)
 refine c_seq ?_
 refine c_sp ?_
 refine x_pure 3 [(24, Vp b_p0 0), (25, Vi p1), (26, Vi (IntKind.i64.wrap (p1 + 3)))] _ _ _ (by kernel_rfl) ?_
 obtain ⟨x17, hx, h⟩ := bind_some h
 have hpk : MS wl6 ([[b_p0]] ++ [blk a8_l6, M]) := hms.pick [some 1, some 0, some 2] _ rfl
 have hsb0 : ∀ x ∈ fl ([[b_p0]] ++ [blk a8_l6, M]), x ∈ fl [blk a8_l6, [b_p0], M] := pick_sub [some 1, some 0, some 2] _ rfl
 have hsb : ∀ x ∈ fl ([[b_p0]] ++ [(fl [blk a8_l6, M])]), x ∈ fl [blk a8_l6, [b_p0], M] := fun x hx => hsb0 x (fl_unfold x hx)
 have hcall := gen_Maker_Next_w b_p0 a_p0_0 c_p0_0 p0_0 e2_l6_1 (IntKind.i64.wrap (p1 + 3)) _ wl6 (fl [blk a8_l6, M]) (hpk.fold (P := [[b_p0]])) (hs_p0_0.sub hsb) hb_p0 hx
 refine x_call 16 #[] #[] [Vp b_p0 0, Vi (IntKind.i64.wrap (p1 + 3))] _ rfl rfl rfl rfl hcall ?_
 rintro v w18 ⟨rfl, he18, hp18_0⟩
 clear hcall hx
 refine inl1 ?_
 have hpk2 : MS wl6 ([[b_p0]] ++ [blk a8_l6, M]) := hms.pick [some 1, some 0, some 2] _ rfl
 have hsb2 : ∀ x ∈ fl ([[b_p0]] ++ [blk a8_l6, M]), x ∈ fl [blk a8_l6, [b_p0], M] := pick_sub [some 1, some 0, some 2] _ rfl
 have hst0 := Stp.call (LS := [blk a8_l6, [b_p0], M]) (res := []) (par := [[b_p0]]) (R := [blk a8_l6, M]) he18 (fun b hb => hsb2 b (fl_left' (P := [[b_p0]]) b hb)) (FR.nil _) (NP.init _ _) (fun x hx => hsb2 x (fl_right' (P := [[b_p0]]) x hx))
 have hsn : ∀ x ∈ fl [blk a8_l6, [b_p0], M], x ∈ fl ([] ++ ([[b_p0]] ++ [blk a8_l6, M])) := pick_sub [some 1, some 0, some 2] _ rfl
 have hst := hst0.res hsn
 replace hs_p0_0 := hs_p0_0.step hst
 replace hj8_l6 := hj8_l6.step hst he18 (MS.outs (P := [[b_p0]]) hpk2 0 rfl)
 replace hms := hms.ev he18
 replace hev := hev.then he18 (fun b hb => .inl (by simpa using hb))
 replace hb_p0 := hp18_0
 clear hpk hsb hsb0 hpk2 hsb2 hst0 hsn hst
 refine x_pure 1 [(9, Vi x17.1)] _ _ _ (by kernel_rfl) ?_
 refine x_ek ?_
 refine c_block ?_
 have hst := Stp.push (ls := [blk a8_l6, [b_p0], M]) (l := blk none) (Ev.refl [] w18) (fun _ h => by cases h) (fun _ h => by cases h)
 replace hb_p0 := (Ev.refl [] _).box hb_p0 nn
 replace hs_p0_0 := hs_p0_0.step hst
 replace hj8_l6 := hj8_l6.step hst (Ev.refl [] _) nn2
 replace hms := hms.push (l := blk none) (Ev.refl [] _) (fun _ h => by cases h)
 replace hfr := hfr.push (l := blk none) (fun _ h => by cases h)
 have ho20 := OwnS.nil (eInt .i64) 3 w18 (fl [blk none, blk a8_l6, [b_p0], M])
 have hpk : MS w18 [blk a8_l6, blk none, [b_p0], M] := hms.pick [some 1, some 0, some 2, some 3] _ rfl
 have hsu : ∀ x ∈ fl [blk a8_l6, blk none, [b_p0], M], x ∈ fl [blk none, blk a8_l6, [b_p0], M] := pick_sub [some 1, some 0, some 2, some 3] _ rfl
 replace hs_p0_0 := hs_p0_0.sub hsu
 replace hj8_l6 := hj8_l6.sub hsu
 replace ho20 := ho20.sub hsu
 replace hms := hpk
 replace hfr : FR w.heap.size [blk a8_l6, blk none] := hfr.pick [some 1, some 0] _ rfl
 clear hpk hsu
 obtain ⟨d19, hd19, h19⟩ := bind_some h
 obtain ⟨m19, hd19⟩ := loop_some hd19
 refine c_loop (loop_rule hmx (σ := Nat × Int × (List Int) × Int × Option Addr × Nat) (fun s => match s with | (_, e2_l19_1, d21_l19, i_s9_l19, a21_l19, c21_l19) => [(0, Vp b_p0 0), (6, .slice a8_l6 (d8_l6).length c8_l6), (7, .slice a21_l19 (d21_l19).length c21_l19), (9, Vi i_s9_l19)]) (fun s w' => match s with | (m, e2_l19_1, d21_l19, i_s9_l19, a21_l19, c21_l19) => loopN (law16_lists_L19 p0_0) m (e2_l19_1, d21_l19, i_s9_l19) = some d19 ∧ Ev [b_p0] w w' ∧ MS w' [blk a8_l6, blk a21_l19, [b_p0], M] ∧ FR w.heap.size [blk a8_l6, blk a21_l19] ∧ SlR (eInt .i64) w' (fl [blk a8_l6, blk a21_l19, [b_p0], M]) a_p0_0 c_p0_0 p0_0 ∧ w'.heap[b_p0]? = some (.cells #[.slice a_p0_0 (p0_0).length c_p0_0, Vi e2_l19_1] 46 (0, 0)) ∧ OwnS (eInt .i64) 3 w' (fl [blk a8_l6, blk a21_l19, [b_p0], M]) a8_l6 c8_l6 d8_l6 ∧ OwnS (eInt .i64) 3 w' (fl [blk a8_l6, blk a21_l19, [b_p0], M]) a21_l19 c21_l19 d21_l19) (fun s => s.1) (m19, x17.2, ([] : List Int), x17.1, none, 0) ⟨rfl, rfl, rfl, rfl, trivial⟩ ⟨hd19, hev, hms, hfr, hs_p0_0, hb_p0, hj8_l6, ho20⟩ ?_)
 rintro ⟨m19, e2_l19_1, d21_l19, i_s9_l19, a21_l19, c21_l19⟩ J wl19 ⟨hn19, hev, hms, hfr, hs_p0_0, hb_p0, hj8_l6, hj21_l19⟩
 rcases m19 with _ | m19
 · exact (loopN_zero hn19).elim
 obtain ⟨t19, h, hn19⟩ := bind_some hn19
 refine c_seq ?_
 refine c_sp ?_
 refine x_pure 2 [(28, Vi i_s9_l19), (29, .bool (decide (i_s9_l19 > 0)))] _ _ _ (by kernel_rfl) ?_
 refine x_ek ?_
 refine c_norm [(0, Vp b_p0 0), (6, .slice a8_l6 (d8_l6).length c8_l6), (7, .slice a21_l19 (d21_l19).length c21_l19), (9, Vi i_s9_l19), (29, .bool (decide (i_s9_l19 > 0)))] ⟨rfl, rfl, rfl, rfl, rfl, trivial⟩ (fun J => ?_)
 refine c_cond (decide (i_s9_l19 > 0)) rfl (fun hb => ?_) (fun hb => ?_)
 · replace h := ite_t hb h
   refine c_skip ?_
   refine k_then ?_
   refine c_seq ?_
   refine c_block ?_
   refine c_plain ?_
   refine x_pure 2 [(32, .slice a21_l19 (d21_l19).length c21_l19), (33, Vp b_p0 0)] _ _ _ (by kernel_rfl) ?_
   refine x_buildSlice (vs := [(0, Vi 1), (1, Vi 5), (2, Vi 8), (3, Vi 8), (4, Vi 12), (5, Vi 20), (6, Vi 30)]) #[Vi 1, Vi 5, Vi 8, Vi 8, Vi 12, Vi 20, Vi 30] 3 rfl rfl rfl (by kernel_rfl) (fun b23 w23 hq23 hb23 he23 hz23 => ?_)
   refine inl1 ?_
   have hms0 := hms
   have hst := Stp.ext (ls := [blk a8_l6, blk a21_l19, [b_p0], M]) he23
   replace hb_p0 := he23.box hb_p0 nn
   replace hs_p0_0 := hs_p0_0.step hst
   replace hj8_l6 := hj8_l6.step hst he23 nn2
   replace hj21_l19 := hj21_l19.step hst he23 nn2
   replace hms := hms.ev he23
   replace hev := hev.ext he23
   have hs23 : SlR (eInt .i64) w23 (fl [blk a8_l6, blk a21_l19, [b_p0], M]) (Ad b23 0) 7 ([1, 5, 8, 8, 12, 20, 30]) := ro_of_box hms0 hq23 hb23 rfl rfl (cells_at (cs := [Vi 1, Vi 5, Vi 8, Vi 8, Vi 12, Vi 20, Vi 30]) (CellsOf.cons (c := [Vi 1]) rfl (CellsOf.cons (c := [Vi 5]) rfl (CellsOf.cons (c := [Vi 8]) rfl (CellsOf.cons (c := [Vi 8]) rfl (CellsOf.cons (c := [Vi 12]) rfl (CellsOf.cons (c := [Vi 20]) rfl (CellsOf.cons (c := [Vi 30]) rfl CellsOf.nil))))))))
   clear hb23 hms0
   obtain ⟨x25, hx, h⟩ := bind_some h
   have hpk : MS w23 ([[b_p0]] ++ [blk a8_l6, blk a21_l19, M]) := hms.pick [some 2, some 0, some 1, some 3] _ rfl
   have hsb0 : ∀ x ∈ fl ([[b_p0]] ++ [blk a8_l6, blk a21_l19, M]), x ∈ fl [blk a8_l6, blk a21_l19, [b_p0], M] := pick_sub [some 2, some 0, some 1, some 3] _ rfl
   have hsb : ∀ x ∈ fl ([[b_p0]] ++ [(fl [blk a8_l6, blk a21_l19, M])]), x ∈ fl [blk a8_l6, blk a21_l19, [b_p0], M] := fun x hx => hsb0 x (fl_unfold x hx)
   have hcall := gen_Maker_Pick_w b_p0 a_p0_0 c_p0_0 p0_0 e2_l19_1 (Ad b23 0) 7 ([1, 5, 8, 8, 12, 20, 30]) _ w23 (fl [blk a8_l6, blk a21_l19, M]) (hpk.fold (P := [[b_p0]])) (hs_p0_0.sub hsb) hb_p0 (hs23.sub hsb) hx
   refine x_call 17 #[] #[] [Vp b_p0 0, .slice (Ad b23 0) ([1, 5, 8, 8, 12, 20, 30]).length 7] _ rfl rfl rfl rfl hcall ?_
   rintro v w26 ⟨rfl, he26, hp26_0⟩
   clear hcall hx
   refine inl1 ?_
   have hpk2 : MS w23 ([[b_p0]] ++ [blk a8_l6, blk a21_l19, M]) := hms.pick [some 2, some 0, some 1, some 3] _ rfl
   have hsb2 : ∀ x ∈ fl ([[b_p0]] ++ [blk a8_l6, blk a21_l19, M]), x ∈ fl [blk a8_l6, blk a21_l19, [b_p0], M] := pick_sub [some 2, some 0, some 1, some 3] _ rfl
   have hst0 := Stp.call (LS := [blk a8_l6, blk a21_l19, [b_p0], M]) (res := []) (par := [[b_p0]]) (R := [blk a8_l6, blk a21_l19, M]) he26 (fun b hb => hsb2 b (fl_left' (P := [[b_p0]]) b hb)) (FR.nil _) (NP.init _ _) (fun x hx => hsb2 x (fl_right' (P := [[b_p0]]) x hx))
   have hsn : ∀ x ∈ fl [blk a8_l6, blk a21_l19, [b_p0], M], x ∈ fl ([] ++ ([[b_p0]] ++ [blk a8_l6, blk a21_l19, M])) := pick_sub [some 1, some 2, some 0, some 3] _ rfl
   have hst := hst0.res hsn
   replace hs_p0_0 := hs_p0_0.step hst
   replace hj8_l6 := hj8_l6.step hst he26 (MS.outs (P := [[b_p0]]) hpk2 0 rfl)
   replace hj21_l19 := hj21_l19.step hst he26 (MS.outs (P := [[b_p0]]) hpk2 1 rfl)
   replace hs23 := hs23.step hst
   replace hms := hms.ev he26
   replace hev := hev.then he26 (fun b hb => .inl (by simpa using hb))
   replace hb_p0 := hp26_0
   clear hpk hsb hsb0 hpk2 hsb2 hst0 hsn hst
   refine x_buildSlice (vs := [(0, Vi x25.1)]) #[Vi x25.1] 3 rfl rfl rfl (by kernel_rfl) (fun b27 w27 hq27 hb27 he27 hz27 => ?_)
   refine inl1 ?_
   have hms0 := hms
   have hst := Stp.ext (ls := [blk a8_l6, blk a21_l19, [b_p0], M]) he27
   replace hb_p0 := he27.box hb_p0 nn
   replace hs_p0_0 := hs_p0_0.step hst
   replace hj8_l6 := hj8_l6.step hst he27 nn2
   replace hj21_l19 := hj21_l19.step hst he27 nn2
   replace hs23 := hs23.step hst
   replace hms := hms.ev he27
   replace hev := hev.ext he27
   have hs27 : SlR (eInt .i64) w27 (fl [blk a8_l6, blk a21_l19, [b_p0], M]) (Ad b27 0) 1 ([x25.1]) := ro_of_box hms0 hq27 hb27 rfl rfl (cells_at (cs := [Vi x25.1]) (CellsOf.cons (c := [Vi x25.1]) rfl CellsOf.nil))
   clear hb27 hms0
   have hg := guard_l h
   replace h := guard_r h
   obtain ⟨a29, c29, w29, hr29, he29, hn29, hm29, hw29⟩ := own_appendN tel22 22 hj21_l19 (mem_flat 1 rfl) hs27 hg
   refine x_builtin (vs := [.slice a21_l19 (d21_l19).length c21_l19, .slice (Ad b27 0) ([x25.1]).length 1]) _ w29 rfl rfl rfl rfl (run_value _ _ _ _ hr29) ?_
   refine inl1 ?_
   have hst : Stp (fl [blk a8_l6, blk a21_l19, [b_p0], M]) w27 (fl [blk a8_l6, blk a29, [b_p0], M]) w29 := Stp.upd 1 he29 rfl (fun b hb => (hn29 b hb).1)
   replace hb_p0 := he29.box hb_p0 (hms.apart 2 1 rfl rfl rfl _ mem1)
   replace hs_p0_0 := hs_p0_0.step hst
   replace hj8_l6 := hj8_l6.step hst he29 (hms.apart 0 1 rfl rfl rfl)
   replace hs23 := hs23.step hst
   replace hs27 := hs27.step hst
   replace hms : MS w29 [blk a8_l6, blk a29, [b_p0], M] := hms.upd 1 he29 rfl hn29
   have hfr2 : FR w.heap.size [blk a8_l6, blk a29] := hfr.upd 1 rfl hev.size (fun b hb => (hn29 b hb).1)
   replace hev := hev.then he29 (fun b hb => .inr (hfr.at 1 rfl b hb))
   replace hfr := hfr2
   clear hfr2
   replace hj21_l19 := hw29 (fl [blk a8_l6, blk a29, [b_p0], M]) hst.new
   clear hw29
   refine x_pure 1 [(7, .slice a29 ((d21_l19 ++ [x25.1])).length c29)] _ _ _ (by kernel_rfl) ?_
   refine x_end rfl ?_
   refine k_block ?_
   refine k_then ?_
   refine c_plain ?_
   refine x_pure 3 [(30, Vi i_s9_l19), (31, Vi (IntKind.i64.wrap (i_s9_l19 - 1))), (9, Vi (IntKind.i64.wrap (i_s9_l19 - 1)))] _ _ _ (by kernel_rfl) ?_
   refine x_end rfl ?_
   have hx := some_inj h
   subst hx
   exact k_then ⟨(m19, x25.2, (d21_l19 ++ [x25.1]), IntKind.i64.wrap (i_s9_l19 - 1), a29, c29), ⟨rfl, rfl, rfl, rfl, trivial⟩, ⟨hn19, hev, hms, hfr, hs_p0_0, hb_p0, hj8_l6, hj21_l19⟩, Nat.lt_succ_self _⟩
 replace h := ite_f hb h
 refine c_exit ?_
 refine k_then_exit ?_
 have hx := some_inj h
 subst hx
 have hy := some_inj hn19
 subst hy
 replace h := h19
 refine k_then_exit ?_
 refine k_block_in ?_
 refine k_then ?_
 refine c_norm [(6, .slice a8_l6 (d8_l6).length c8_l6), (7, .slice a21_l19 (d21_l19).length c21_l19)] ⟨rfl, rfl, trivial⟩ (fun J => ?_)
 refine c_sp ?_
 refine x_pure 4 [(38, .slice a8_l6 (d8_l6).length c8_l6), (39, .slice a21_l19 (d21_l19).length c21_l19), (4, .slice a8_l6 (d8_l6).length c8_l6), (5, .slice a21_l19 (d21_l19).length c21_l19)] _ _ _ (by kernel_rfl) ?_
 refine x_ek ?_
 refine c_ret ?_
 refine r_ret (r_vals [.slice a8_l6 (d8_l6).length c8_l6, .slice a21_l19 (d21_l19).length c21_l19] ⟨rfl, rfl, trivial⟩ ?_)
 have hx := some_inj h
 subst hx
 have hmr : MS wl19 [blk a8_l6, blk a21_l19, [b_p0], M] := hms.pick [some 0, some 1, some 2, some 3] _ rfl
 have hsu : ∀ x ∈ fl [blk a8_l6, blk a21_l19, [b_p0], M], x ∈ fl [blk a8_l6, blk a21_l19, [b_p0], M] := pick_sub [some 0, some 1, some 2, some 3] _ rfl
 have hfe : FR w.heap.size [blk a8_l6, blk a21_l19] := hfr.pick [some 0, some 1] _ rfl
 exact ⟨a8_l6, c8_l6, a21_l19, c21_l19, rfl, hev, hb_p0, hmr, hfe, hj8_l6.sub hsu, hj21_l19.sub hsu⟩
end Go.Proofs.Ytdbomhhcebmkpaa
