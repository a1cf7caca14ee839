
/- Walks, printed by program: each function returns what the partial function of the same name returns. Conditions: those of each theorem. -/
import Derived.Test.YtgeceohdppecgaaGT
import Derived.Test.YtgeceohdppecgaaGgen
import Derived.Test.YtgeceohdppecgaaGr42
set_option linter.unusedVariables false
set_option linter.unusedSimpArgs false
set_option maxRecDepth 4000
namespace Go.Proofs.Ytgeceohdppecgaa
open Go Go.V Go.Proofs
def law42_made_L26 (p0_0 : List Int) (d8_x6 : List ((List UInt8) × Int)) (s : Int × (List (List Int)) × (List Int) × Int) : Option (Step (Int × (List (List Int)) × (List Int) × Int) (Int × (List (List Int)) × (List Int))) :=
match s with
| (e2_l26_1, d10_l26, d28_l26, i_s9_l26) =>
(if (decide (i_s9_l26 > 0)) = true then
((gen_Maker_Next p0_0 e2_l26_1 (IntKind.i64.wrap (((d8_x6).length : Int) + 1))).bind fun x30 =>
((gen_Maker_Pick p0_0 x30.2 ([1, 80, 142, 400])).bind fun x34 =>
(if d28_l26.length + ([x34.1]).length ≤ 4294967296 then
(if (decide (x30.1 < ((d8_x6).length : Int))) = true then
((idx d10_l26 x30.1).bind fun x39 =>
(if x39.length + ([((d28_l26).length : Int)]).length ≤ 4294967296 then
((idx d10_l26 x30.1).bind fun x46 =>
((r42_Valid d8_x6 (d28_l26 ++ [x34.1]) (d10_l26.set (Int.toNat x30.1) (x39 ++ [((d28_l26).length : Int)]))).bind fun x49 =>
(if (!x49) = true then
((idx (d10_l26.set (Int.toNat x30.1) (x39 ++ [((d28_l26).length : Int)])) x30.1).bind fun x51 =>
((idx (d10_l26.set (Int.toNat x30.1) (x39 ++ [((d28_l26).length : Int)])) x30.1).bind fun x53 =>
(if 0 ≤ IntKind.i64.wrap (((x53).length : Int) - 1) ∧ IntKind.i64.wrap (((x53).length : Int) - 1) ≤ (x51.length : Int) then
((idx (d10_l26.set (Int.toNat x30.1) (x39 ++ [((d28_l26).length : Int)])) x30.1).bind fun x59 =>
some (.next (x34.2, ((d10_l26.set (Int.toNat x30.1) (x39 ++ [((d28_l26).length : Int)])).set (Int.toNat x30.1) (x51.take (Int.toNat (IntKind.i64.wrap (((x53).length : Int) - 1))))), (d28_l26 ++ [x34.1]), IntKind.i64.wrap (i_s9_l26 - 1))))
else none)))
else
some (.next (x34.2, (d10_l26.set (Int.toNat x30.1) (x39 ++ [((d28_l26).length : Int)])), (d28_l26 ++ [x34.1]), IntKind.i64.wrap (i_s9_l26 - 1))))))
else none))
else
some (.next (x34.2, d10_l26, (d28_l26 ++ [x34.1]), IntKind.i64.wrap (i_s9_l26 - 1))))
else none)))
else
some (.done (e2_l26_1, d10_l26, d28_l26)))

def law42_made_L6 (p0_0 : List Int) (s : Int × (List ((List UInt8) × Int)) × (List (List Int)) × Int) : Option (Step (Int × (List ((List UInt8) × Int)) × (List (List Int)) × Int) (Int × (List ((List UInt8) × Int)) × (List (List Int)))) :=
match s with
| (e2_l6_1, d8_l6, d10_l6, i_s7_l6) =>
(if (decide (i_s7_l6 > 0)) = true then
((gen_Maker_Pick p0_0 e2_l6_1 ([0, 200, 500, 1500, 100000])).bind fun x14 =>
(if d8_l6.length + ([(([] : List UInt8), x14.1)] : List ((List UInt8) × Int)).length ≤ 4294967296 then
(if d10_l6.length + 1 ≤ 4294967296 then
some (.next (x14.2, (d8_l6 ++ ([(([] : List UInt8), x14.1)] : List ((List UInt8) × Int))), (d10_l6 ++ [([] : List Int)]), IntKind.i64.wrap (i_s7_l6 - 1)))
else none)
else none))
else
some (.done (e2_l6_1, d8_l6, d10_l6)))

def law42_made (p0_0 : List Int) (p0_1 : Int) : Option ((List ((List UInt8) × Int)) × (List Int) × (List (List Int)) × Int) :=
((gen_Maker_Next p0_0 p0_1 5).bind fun x4 =>
((loop (law42_made_L6 p0_0) (x4.2, ([] : List ((List UInt8) × Int)), ([] : List (List Int)), IntKind.i64.wrap (1 + x4.1))).bind fun d => match d with
| (e2_x6_1, d8_x6, d10_x6) => ((gen_Maker_Next p0_0 e2_x6_1 12).bind fun x24 =>
((loop (law42_made_L26 p0_0 d8_x6) (x24.2, d10_x6, ([] : List Int), x24.1)).bind fun d => match d with
| (e2_x26_1, d10_x26, d28_x26) => some (d8_x6, d28_x26, d10_x26, e2_x26_1)))))

theorem law42_made_w (b_p0 : Nat) (a_p0_0 : Option Addr) (c_p0_0 : Nat) (p0_0 : List Int) (p0_1 : Int) (r : (List ((List UInt8) × Int)) × (List Int) × (List (List Int)) × Int) (w : World) (M : List Nat) (hms : MS w [[b_p0], M]) (hs_p0_0 : SlR (eInt .i64) w (fl [[b_p0], M]) a_p0_0 c_p0_0 p0_0) (hb_p0 : w.heap[b_p0]? = some (.cells #[.slice a_p0_0 (p0_0).length c_p0_0, Vi p0_1] 52 (0, 0))) (h : law42_made p0_0 p0_1 = some r) : CallVC Try.prog 7 [Vp b_p0 0] w fun v w' => ∃ (a0' : Option Addr), ∃ (c0' : Nat), ∃ (a2' : Option Addr), ∃ (c2' : Nat), ∃ (a4' : Option Addr), ∃ (c4' : Nat), ∃ (B6' : List Nat), v = .tuple #[.slice a0' (r.1).length c0', .slice a2' (r.2.1).length c2', .slice a4' (r.2.2.1).length c4'] ∧ Ev [b_p0] w w' ∧ w'.heap[b_p0]? = some (.cells #[.slice a_p0_0 (p0_0).length c_p0_0, Vi r.2.2.2] 52 (0, 0)) ∧ MS w' [blk a0', blk a2', B6', [b_p0], M] ∧ FR w.heap.size [blk a0', blk a2', B6'] ∧ OwnS (eProd eStr (eInt .i64)) 45 w' (fl [blk a0', blk a2', B6', [b_p0], M]) a0' c0' r.1 ∧ OwnS (eInt .i64) 3 w' (fl [blk a0', blk a2', B6', [b_p0], M]) a2' c2' r.2.1 ∧ OwnR (eInt .i64) 3 22 w' B6' a4' c4' r.2.2.1 none := by
 refine calls_vc hmx Try.func7 (by kernel_rfl) rfl (rs := [.tmp 2, .tmp 3, .tmp 4]) rfl (by kernel_rfl) (args := [Vp b_p0 0]) rfl ?_
 have hev : Ev [b_p0] w w := Ev.refl _ _
 have hfr : FR w.heap.size [] := FR.nil _
 refine c_sp ?_
 refine x_u 3 [(2, .slice none 0 0), (3, .slice none 0 0), (4, .slice none 0 0)] ?_
 refine x_ek ?_
 refine c_sp ?_
 refine x_u 1 [(5, .slice none 0 0)] ?_
 refine x_ek ?_
 refine c_sp ?_
 refine x_u 1 [(6, .slice none 0 0)] ?_
 refine x_ek ?_
 refine c_seq ?_
 refine c_sp ?_
 refine x_u 1 [(12, Vp b_p0 0)] ?_
 obtain ⟨x4, hx, h⟩ := bind_some h
 have hpk : MS w ([[b_p0]] ++ [M]) := hms.pick [some 0, some 1] _ rfl
 have hsb0 : ∀ x ∈ fl ([[b_p0]] ++ [M]), x ∈ fl [[b_p0], M] := pick_sub [some 0, some 1] _ rfl
 have hsb : ∀ x ∈ fl ([[b_p0]] ++ [(fl [M])]), x ∈ fl [[b_p0], M] := fun x hx => hsb0 x (fl_unfold x hx)
 have hcall := gen_Maker_Next_w b_p0 a_p0_0 c_p0_0 p0_0 p0_1 5 _ w (fl [M]) (hpk.fold (P := [[b_p0]])) (hs_p0_0.sub hsb) hb_p0 hx
 refine x_call 14 #[] #[] [Vp b_p0 0, Vi 5] _ rfl rfl rfl rfl hcall ?_
 rintro v w5 ⟨rfl, he5, hp5_0⟩
 clear hcall hx
 refine inl1 ?_
 have hpk2 : MS w ([[b_p0]] ++ [M]) := hms.pick [some 0, some 1] _ rfl
 have hsb2 : ∀ x ∈ fl ([[b_p0]] ++ [M]), x ∈ fl [[b_p0], M] := pick_sub [some 0, some 1] _ rfl
 have hst0 := Stp.call (LS := [[b_p0], M]) (res := []) (par := [[b_p0]]) (R := [M]) he5 (fun b hb => hsb2 b (fl_left' (P := [[b_p0]]) b hb)) (FR.nil _) (NP.init _ _) (fun x hx => hsb2 x (fl_right' (P := [[b_p0]]) x hx))
 have hsn : ∀ x ∈ fl [[b_p0], M], x ∈ fl ([] ++ ([[b_p0]] ++ [M])) := pick_sub [some 0, some 1] _ rfl
 have hst := hst0.res hsn
 replace hs_p0_0 := hs_p0_0.step hst
 replace hms := hms.ev he5
 replace hev := hev.then he5 (fun b hb => .inl (by simpa using hb))
 replace hb_p0 := hp5_0
 clear hpk hsb hsb0 hpk2 hsb2 hst0 hsn hst
 refine x_u 2 [(14, Vi (IntKind.i64.wrap (1 + x4.1))), (7, Vi (IntKind.i64.wrap (1 + x4.1)))] ?_
 refine x_ek ?_
 refine c_block ?_
 have hst := Stp.push (ls := [[b_p0], M]) (l := blk none) (Ev.refl [] w5) (fun _ h => by cases h) (fun _ h => by cases h)
 replace hs_p0_0 := hs_p0_0.step hst
 replace hb_p0 := (Ev.refl [] _).box hb_p0 nn
 replace hms := hms.push (l := blk none) (Ev.refl [] _) (fun _ h => by cases h)
 replace hfr := hfr.push (l := blk none) (fun _ h => by cases h)
 have ho7 := OwnS.nil (eProd eStr (eInt .i64)) 45 w5 (fl [blk none, [b_p0], M])
 have hst := Stp.push (ls := [blk none, [b_p0], M]) (l := ([] : List Nat)) (Ev.refl [] w5) (fun _ h => by cases h) (fun _ h => by cases h)
 replace hs_p0_0 := hs_p0_0.step hst
 replace hb_p0 := (Ev.refl [] _).box hb_p0 nn
 replace ho7 := ho7.step hst (Ev.refl [] _) nn2
 replace hms := hms.push (l := ([] : List Nat)) (Ev.refl [] _) (fun _ h => by cases h)
 replace hfr := hfr.push (l := ([] : List Nat)) (fun _ h => by cases h)
 have ho9 := OwnR.nil (eInt .i64) 3 22 w5 ([] : List Nat)
 have hpk : MS w5 [blk none, ([] : List Nat), [b_p0], M] := hms.pick [some 1, some 0, some 2, some 3] _ rfl
 have hsu : ∀ x ∈ fl [blk none, ([] : List Nat), [b_p0], M], x ∈ fl [([] : List Nat), blk none, [b_p0], M] := pick_sub [some 1, some 0, some 2, some 3] _ rfl
 replace hs_p0_0 := hs_p0_0.sub hsu
 replace ho7 := ho7.sub hsu
 replace hms := hpk
 replace hfr : FR w.heap.size [blk none, ([] : List Nat)] := hfr.pick [some 1, some 0] _ rfl
 clear hpk hsu
 obtain ⟨d6, hd6, h6⟩ := bind_some h
 obtain ⟨m6, hd6⟩ := loop_some hd6
 refine c_loop (loop_rule hmx (σ := Nat × Int × (List ((List UInt8) × Int)) × (List (List Int)) × Int × Option Addr × Nat × Option Addr × Nat × List Nat) (fun s => match s with | (_, e2_l6_1, d8_l6, d10_l6, i_s7_l6, a8_l6, c8_l6, a10_l6, c10_l6, B10_l6) => [(0, Vp b_p0 0), (5, .slice a8_l6 (d8_l6).length c8_l6), (6, .slice a10_l6 (d10_l6).length c10_l6), (7, Vi i_s7_l6)]) (fun s w' => match s with | (m, e2_l6_1, d8_l6, d10_l6, i_s7_l6, a8_l6, c8_l6, a10_l6, c10_l6, B10_l6) => loopN (law42_made_L6 p0_0) m (e2_l6_1, d8_l6, d10_l6, i_s7_l6) = some d6 ∧ Ev [b_p0] w w' ∧ MS w' [blk a8_l6, B10_l6, [b_p0], M] ∧ FR w.heap.size [blk a8_l6, B10_l6] ∧ SlR (eInt .i64) w' (fl [blk a8_l6, B10_l6, [b_p0], M]) a_p0_0 c_p0_0 p0_0 ∧ w'.heap[b_p0]? = some (.cells #[.slice a_p0_0 (p0_0).length c_p0_0, Vi e2_l6_1] 52 (0, 0)) ∧ OwnS (eProd eStr (eInt .i64)) 45 w' (fl [blk a8_l6, B10_l6, [b_p0], M]) a8_l6 c8_l6 d8_l6 ∧ OwnR (eInt .i64) 3 22 w' B10_l6 a10_l6 c10_l6 d10_l6 none) (fun s => s.1) (m6, x4.2, ([] : List ((List UInt8) × Int)), ([] : List (List Int)), IntKind.i64.wrap (1 + x4.1), none, 0, none, 0, ([] : List Nat)) ⟨rfl, rfl, rfl, rfl, trivial⟩ ⟨hd6, hev, hms, hfr, hs_p0_0, hb_p0, ho7, ho9⟩ ?_)
 rintro ⟨m6, e2_l6_1, d8_l6, d10_l6, i_s7_l6, a8_l6, c8_l6, a10_l6, c10_l6, B10_l6⟩ J wl6 ⟨hn6, hev, hms, hfr, hs_p0_0, hb_p0, hj8_l6, hj10_l6⟩
 rcases m6 with _ | m6
 · exact (loopN_zero hn6).elim
 obtain ⟨t6, h, hn6⟩ := bind_some hn6
 refine c_seq ?_
 refine c_sp ?_
 refine x_u 2 [(15, Vi i_s7_l6), (16, .bool (decide (i_s7_l6 > 0)))] ?_
 refine x_ek ?_
 refine c_norm [(0, Vp b_p0 0), (5, .slice a8_l6 (d8_l6).length c8_l6), (6, .slice a10_l6 (d10_l6).length c10_l6), (7, Vi i_s7_l6), (16, .bool (decide (i_s7_l6 > 0)))] ⟨rfl, rfl, rfl, rfl, rfl, trivial⟩ (fun J => ?_)
 refine c_if (decide (i_s7_l6 > 0)) rfl h (fun h => ?_) (fun h => ?_)
 · refine c_skip ?_
   refine k_then ?_
   refine c_seq ?_
   refine c_block ?_
   refine c_plain ?_
   refine x_u 2 [(19, .slice a8_l6 (d8_l6).length c8_l6), (20, Vp b_p0 0)] ?_
   refine x_buildSlice (vs := [(0, Vi 0), (1, Vi 200), (2, Vi 500), (3, Vi 1500), (4, Vi 100000)]) #[Vi 0, Vi 200, Vi 500, Vi 1500, Vi 100000] 3 rfl rfl rfl (by kernel_rfl) (fun b12 w12 hq12 hb12 he12 hz12 => ?_)
   refine inl1 ?_
   have hms0 := hms
   have hst := Stp.ext (ls := [blk a8_l6, B10_l6, [b_p0], M]) he12
   replace hb_p0 := he12.box hb_p0 nn
   replace hs_p0_0 := hs_p0_0.step hst
   replace hj8_l6 := hj8_l6.step hst he12 nn2
   replace hj10_l6 := hj10_l6.step (plain_int _) he12 nn2
   replace hms := hms.ev he12
   replace hev := hev.ext he12
   have hs12 : SlR (eInt .i64) w12 (fl [blk a8_l6, B10_l6, [b_p0], M]) (Ad b12 0) 5 ([0, 200, 500, 1500, 100000]) := ro_of_box hms0 hq12 hb12 rfl rfl (cells_at (cs := [Vi 0, Vi 200, Vi 500, Vi 1500, Vi 100000]) (CellsOf.cons (c := [Vi 0]) rfl (CellsOf.cons (c := [Vi 200]) rfl (CellsOf.cons (c := [Vi 500]) rfl (CellsOf.cons (c := [Vi 1500]) rfl (CellsOf.cons (c := [Vi 100000]) rfl CellsOf.nil))))))
   clear hb12 hms0
   obtain ⟨x14, hx, h⟩ := bind_some h
   have hpk : MS w12 ([[b_p0]] ++ [blk a8_l6, B10_l6, M]) := hms.pick [some 2, some 0, some 1, some 3] _ rfl
   have hsb0 : ∀ x ∈ fl ([[b_p0]] ++ [blk a8_l6, B10_l6, M]), x ∈ fl [blk a8_l6, B10_l6, [b_p0], M] := pick_sub [some 2, some 0, some 1, some 3] _ rfl
   have hsb : ∀ x ∈ fl ([[b_p0]] ++ [(fl [blk a8_l6, B10_l6, M])]), x ∈ fl [blk a8_l6, B10_l6, [b_p0], M] := fun x hx => hsb0 x (fl_unfold x hx)
   have hcall := gen_Maker_Pick_w b_p0 a_p0_0 c_p0_0 p0_0 e2_l6_1 (Ad b12 0) 5 ([0, 200, 500, 1500, 100000]) _ w12 (fl [blk a8_l6, B10_l6, M]) (hpk.fold (P := [[b_p0]])) (hs_p0_0.sub hsb) hb_p0 (hs12.sub hsb) hx
   refine x_call 15 #[] #[] [Vp b_p0 0, .slice (Ad b12 0) ([0, 200, 500, 1500, 100000]).length 5] _ rfl rfl rfl rfl hcall ?_
   rintro v w15 ⟨rfl, he15, hp15_0⟩
   clear hcall hx
   refine inl1 ?_
   have hpk2 : MS w12 ([[b_p0]] ++ [blk a8_l6, B10_l6, M]) := hms.pick [some 2, some 0, some 1, some 3] _ rfl
   have hsb2 : ∀ x ∈ fl ([[b_p0]] ++ [blk a8_l6, B10_l6, M]), x ∈ fl [blk a8_l6, B10_l6, [b_p0], M] := pick_sub [some 2, some 0, some 1, some 3] _ rfl
   have hst0 := Stp.call (LS := [blk a8_l6, B10_l6, [b_p0], M]) (res := []) (par := [[b_p0]]) (R := [blk a8_l6, B10_l6, M]) he15 (fun b hb => hsb2 b (fl_left' (P := [[b_p0]]) b hb)) (FR.nil _) (NP.init _ _) (fun x hx => hsb2 x (fl_right' (P := [[b_p0]]) x hx))
   have hsn : ∀ x ∈ fl [blk a8_l6, B10_l6, [b_p0], M], x ∈ fl ([] ++ ([[b_p0]] ++ [blk a8_l6, B10_l6, M])) := pick_sub [some 1, some 2, some 0, some 3] _ rfl
   have hst := hst0.res hsn
   replace hs_p0_0 := hs_p0_0.step hst
   replace hj8_l6 := hj8_l6.step hst he15 (MS.outs (P := [[b_p0]]) hpk2 0 rfl)
   replace hj10_l6 := hj10_l6.step (plain_int _) he15 (MS.outs (P := [[b_p0]]) hpk2 1 rfl)
   replace hs12 := hs12.step hst
   replace hms := hms.ev he15
   replace hev := hev.then he15 (fun b hb => .inl (by simpa using hb))
   replace hb_p0 := hp15_0
   clear hpk hsb hsb0 hpk2 hsb2 hst0 hsn hst
   refine x_build (vs := [(1, Vi x14.1)]) (.agg #[Vs ([] : List UInt8), Vi x14.1]) rfl rfl rfl (fun _ _ => by kernel_rfl) ?_
   refine x_buildSlice (vs := [(0, .agg #[Vs ([] : List UInt8), Vi x14.1])]) #[Vs ([] : List UInt8), Vi x14.1] 45 rfl rfl rfl (by kernel_rfl) (fun b16 w16 hq16 hb16 he16 hz16 => ?_)
   refine inl1 ?_
   have hms0 := hms
   have hst := Stp.ext (ls := [blk a8_l6, B10_l6, [b_p0], M]) he16
   replace hb_p0 := he16.box hb_p0 nn
   replace hs_p0_0 := hs_p0_0.step hst
   replace hj8_l6 := hj8_l6.step hst he16 nn2
   replace hj10_l6 := hj10_l6.step (plain_int _) he16 nn2
   replace hs12 := hs12.step hst
   replace hms := hms.ev he16
   replace hev := hev.ext he16
   have hs16 : SlR (eProd eStr (eInt .i64)) w16 (fl [blk a8_l6, B10_l6, [b_p0], M]) (Ad b16 0) 1 ([(([] : List UInt8), x14.1)] : List ((List UInt8) × Int)) := ro_of_box hms0 hq16 hb16 rfl rfl (cells_at (cs := [Vs ([] : List UInt8), Vi x14.1]) (CellsOf.cons (c := [Vs ([] : List UInt8), Vi x14.1]) ⟨[Vs ([] : List UInt8)], [Vi x14.1], rfl, rfl, rfl⟩ CellsOf.nil))
   clear hb16 hms0
   have hg := guard_l h
   replace h := guard_r h
   obtain ⟨a18, c18, w18, hr18, he18, hn18, hm18, hw18⟩ := own_appendN tel25 25 hj8_l6 (mem_flat 0 rfl) hs16 hg
   refine x_builtin (vs := [.slice a8_l6 (d8_l6).length c8_l6, .slice (Ad b16 0) (([(([] : List UInt8), x14.1)] : List ((List UInt8) × Int))).length 1]) _ w18 rfl rfl rfl rfl (run_value _ _ _ _ hr18) ?_
   refine inl1 ?_
   have hst : Stp (fl [blk a8_l6, B10_l6, [b_p0], M]) w16 (fl [blk a18, B10_l6, [b_p0], M]) w18 := Stp.upd 0 he18 rfl (fun b hb => (hn18 b hb).1)
   replace hb_p0 := he18.box hb_p0 (hms.apart 2 0 rfl rfl rfl _ mem1)
   replace hs_p0_0 := hs_p0_0.step hst
   replace hj10_l6 := hj10_l6.step (plain_int _) he18 (hms.apart 1 0 rfl rfl rfl)
   replace hs12 := hs12.step hst
   replace hs16 := hs16.step hst
   replace hms : MS w18 [blk a18, B10_l6, [b_p0], M] := hms.upd 0 he18 rfl hn18
   have hfr2 : FR w.heap.size [blk a18, B10_l6] := hfr.upd 0 rfl hev.size (fun b hb => (hn18 b hb).1)
   replace hev := hev.then he18 (fun b hb => .inr (hfr.at 0 rfl b hb))
   replace hfr := hfr2
   clear hfr2
   replace hj8_l6 := hw18 (fl [blk a18, B10_l6, [b_p0], M]) hst.new
   clear hw18
   refine x_u 1 [(26, .slice a10_l6 (d10_l6).length c10_l6)] ?_
   refine x_buildSlice (vs := []) #[] 3 rfl rfl rfl (by kernel_rfl) (fun b19 w19 hq19 hb19 he19 hz19 => ?_)
   refine inl1 ?_
   obtain ⟨a19, ea19⟩ : ∃ a, a = some (⟨b19, 0, none⟩ : Addr) := ⟨_, rfl⟩
   have hw19 : ∀ M, OwnS (eInt .i64) 3 w19 M a19 0 ([] : List Int) := fun M => ea19 ▸ own_of_box hb19 (by decide) rfl rfl (cells_at (cs := []) CellsOf.nil)
   have hn19 : ∀ b ∈ blk a19, w18.heap.size ≤ b ∧ b < w19.heap.size := by subst ea19; intro b hb; simp only [blk, List.mem_singleton] at hb; subst hb; exact ⟨Nat.le_of_eq hq19.symm, lt_of_heap hb19⟩
   clear hb19
   have hst := Stp.push (ls := [blk a18, B10_l6, [b_p0], M]) (l := blk a19) he19 (fun _ h => by cases h) (fun b hb => (hn19 b hb).1)
   replace hb_p0 := he19.box hb_p0 nn
   replace hs_p0_0 := hs_p0_0.step hst
   replace hj8_l6 := hj8_l6.step hst he19 nn2
   replace hj10_l6 := hj10_l6.step (plain_int _) he19 nn2
   replace hs12 := hs12.step hst
   replace hs16 := hs16.step hst
   replace hms := hms.push he19 hn19
   replace hfr := hfr.push (fun b hb => Nat.le_trans hev.size (hn19 b hb).1)
   replace hev := hev.ext he19
   have ho19 := hw19 (fl [blk a19, blk a18, B10_l6, [b_p0], M])
   clear hw19
   rw [← ea19]
   refine x_buildSlice (vs := [(0, .slice a19 (([] : List Int)).length 0)]) #[.slice a19 (([] : List Int)).length 0] 22 rfl rfl rfl (by kernel_rfl) (fun b21 w21 hq21 hb21 he21 hz21 => ?_)
   refine inl1 ?_
   have hms0 := hms
   have hst := Stp.ext (ls := [blk a19, blk a18, B10_l6, [b_p0], M]) he21
   replace hb_p0 := he21.box hb_p0 nn
   replace hs_p0_0 := hs_p0_0.step hst
   replace hj8_l6 := hj8_l6.step hst he21 nn2
   replace hj10_l6 := hj10_l6.step (plain_int _) he21 nn2
   replace hs12 := hs12.step hst
   replace hs16 := hs16.step hst
   replace ho19 := ho19.step hst he21 nn2
   replace hms := hms.ev he21
   replace hev := hev.ext he21
   have hs21 : SlR eHdr w21 (fl [blk a19, blk a18, B10_l6, [b_p0], M]) (Ad b21 0) 1 ([(a19, (([] : List Int)).length, 0)] : List (Option Addr × Nat × Nat)) := ro_of_box hms0 hq21 hb21 rfl rfl (cells_at (cs := [.slice a19 (([] : List Int)).length 0]) (CellsOf.cons (c := [.slice a19 (([] : List Int)).length 0]) rfl CellsOf.nil))
   clear hb21 hms0
   have hg := guard_l h
   replace h := guard_r h
   obtain ⟨a23, c23, w23, B23, hr23, he23, hez23, hn23, hR23⟩ := OwnR.app (P := Try.prog) (plain_int _) tel26 26 hj10_l6 hs21 (mem_flat 2 rfl) ho19 (hms.apart 0 2 rfl rfl rfl) (hms.ltat 2 rfl) hg
   refine x_builtin (vs := [.slice a10_l6 (d10_l6).length c10_l6, .slice (Ad b21 0) (([(a19, (([] : List Int)).length, 0)] : List (Option Addr × Nat × Nat))).length 1]) _ w23 rfl rfl rfl rfl (run_value _ _ _ _ hr23) ?_
   refine inl1 ?_
   have hms2 := hms.merge (C := blk a19 ++ B10_l6) 0 2 rfl rfl (fun x hx => List.mem_append.1 hx)
   replace hfr : FR w.heap.size [blk a18, blk a19 ++ B10_l6] := (FR.cons (hfr.at 1 rfl) (FR.cons (fun b hb => (List.mem_append.1 hb).elim (hfr.at 0 rfl b) (hfr.at 2 rfl b)) (FR.nil _)))
   have hsu : ∀ x ∈ fl [blk a18, blk a19 ++ B10_l6, [b_p0], M], x ∈ fl [blk a19, blk a18, B10_l6, [b_p0], M] := merge_sub (ls := [blk a19, blk a18, B10_l6, [b_p0], M]) (C := blk a19 ++ B10_l6) 0 2 rfl rfl (fun x hx => List.mem_append.1 hx)
   replace hms : MS w21 [blk a18, blk a19 ++ B10_l6, [b_p0], M] := hms2
   replace hs_p0_0 := hs_p0_0.sub hsu
   replace hj8_l6 := hj8_l6.sub hsu
   replace hs12 := hs12.sub hsu
   replace hs16 := hs16.sub hsu
   replace hs21 := hs21.sub hsu
   clear hms2 hsu
   have hst : Stp (fl [blk a18, blk a19 ++ B10_l6, [b_p0], M]) w21 (fl [blk a18, B23, [b_p0], M]) w23 := Stp.upd 1 he23 rfl (fun b hb => (hn23 b hb).1)
   replace hb_p0 := he23.box hb_p0 (hms.apart 2 1 rfl rfl rfl _ mem1)
   replace hs_p0_0 := hs_p0_0.step hst
   replace hj8_l6 := hj8_l6.step hst he23 (hms.apart 0 1 rfl rfl rfl)
   replace hs12 := hs12.step hst
   replace hs16 := hs16.step hst
   replace hs21 := hs21.step hst
   replace hms : MS w23 [blk a18, B23, [b_p0], M] := hms.upd 1 he23 rfl hn23
   have hfr2 : FR w.heap.size [blk a18, B23] := hfr.upd 1 rfl hev.size (fun b hb => (hn23 b hb).1)
   replace hev := hev.then he23 (fun b hb => .inr (hfr.at 1 rfl b hb))
   replace hfr := hfr2
   clear hfr2
   replace hj10_l6 := hR23
   refine x_u 2 [(5, .slice a18 ((d8_l6 ++ ([(([] : List UInt8), x14.1)] : List ((List UInt8) × Int)))).length c18), (6, .slice a23 ((d10_l6 ++ [([] : List Int)])).length c23)] ?_
   refine x_end rfl ?_
   refine k_block ?_
   refine k_then ?_
   refine c_norm [(0, Vp b_p0 0), (5, .slice a18 ((d8_l6 ++ ([(([] : List UInt8), x14.1)] : List ((List UInt8) × Int)))).length c18), (6, .slice a23 ((d10_l6 ++ [([] : List Int)])).length c23), (7, Vi i_s7_l6)] ⟨rfl, rfl, rfl, rfl, trivial⟩ (fun J => ?_)
   refine c_plain ?_
   refine x_u 3 [(17, Vi i_s7_l6), (18, Vi (IntKind.i64.wrap (i_s7_l6 - 1))), (7, Vi (IntKind.i64.wrap (i_s7_l6 - 1)))] ?_
   refine x_end rfl ?_
   have hx := some_inj h
   subst hx
   exact k_then ⟨(m6, x14.2, (d8_l6 ++ ([(([] : List UInt8), x14.1)] : List ((List UInt8) × Int))), (d10_l6 ++ [([] : List Int)]), IntKind.i64.wrap (i_s7_l6 - 1), a18, c18, a23, c23, B23), ⟨rfl, rfl, rfl, rfl, trivial⟩, ⟨hn6, hev, hms, hfr, hs_p0_0, hb_p0, hj8_l6, hj10_l6⟩, Nat.lt_succ_self _⟩
 refine c_exit ?_
 refine k_then_exit ?_
 have hx := some_inj h
 subst hx
 have hy := some_inj hn6
 subst hy
 replace h := h6
 refine k_then_exit ?_
 refine k_block_in ?_
 refine k_then ?_
 refine c_norm [(0, Vp b_p0 0), (5, .slice a8_l6 (d8_l6).length c8_l6), (6, .slice a10_l6 (d10_l6).length c10_l6)] ⟨rfl, rfl, rfl, trivial⟩ (fun J => ?_)
 refine c_sp ?_
 refine x_u 1 [(8, .slice none 0 0)] ?_
 refine x_ek ?_
 refine c_seq ?_
 refine c_sp ?_
 refine x_u 1 [(30, Vp b_p0 0)] ?_
 obtain ⟨x24, hx, h⟩ := bind_some h
 have hpk : MS wl6 ([[b_p0]] ++ [blk a8_l6, B10_l6, M]) := hms.pick [some 2, some 0, some 1, some 3] _ rfl
 have hsb0 : ∀ x ∈ fl ([[b_p0]] ++ [blk a8_l6, B10_l6, M]), x ∈ fl [blk a8_l6, B10_l6, [b_p0], M] := pick_sub [some 2, some 0, some 1, some 3] _ rfl
 have hsb : ∀ x ∈ fl ([[b_p0]] ++ [(fl [blk a8_l6, B10_l6, M])]), x ∈ fl [blk a8_l6, B10_l6, [b_p0], M] := fun x hx => hsb0 x (fl_unfold x hx)
 have hcall := gen_Maker_Next_w b_p0 a_p0_0 c_p0_0 p0_0 e2_l6_1 12 _ wl6 (fl [blk a8_l6, B10_l6, M]) (hpk.fold (P := [[b_p0]])) (hs_p0_0.sub hsb) hb_p0 hx
 refine x_call 14 #[] #[] [Vp b_p0 0, Vi 12] _ rfl rfl rfl rfl hcall ?_
 rintro v w25 ⟨rfl, he25, hp25_0⟩
 clear hcall hx
 refine inl1 ?_
 have hpk2 : MS wl6 ([[b_p0]] ++ [blk a8_l6, B10_l6, M]) := hms.pick [some 2, some 0, some 1, some 3] _ rfl
 have hsb2 : ∀ x ∈ fl ([[b_p0]] ++ [blk a8_l6, B10_l6, M]), x ∈ fl [blk a8_l6, B10_l6, [b_p0], M] := pick_sub [some 2, some 0, some 1, some 3] _ rfl
 have hst0 := Stp.call (LS := [blk a8_l6, B10_l6, [b_p0], M]) (res := []) (par := [[b_p0]]) (R := [blk a8_l6, B10_l6, M]) he25 (fun b hb => hsb2 b (fl_left' (P := [[b_p0]]) b hb)) (FR.nil _) (NP.init _ _) (fun x hx => hsb2 x (fl_right' (P := [[b_p0]]) x hx))
 have hsn : ∀ x ∈ fl [blk a8_l6, B10_l6, [b_p0], M], x ∈ fl ([] ++ ([[b_p0]] ++ [blk a8_l6, B10_l6, M])) := pick_sub [some 1, some 2, some 0, some 3] _ rfl
 have hst := hst0.res hsn
 replace hs_p0_0 := hs_p0_0.step hst
 replace hj8_l6 := hj8_l6.step hst he25 (MS.outs (P := [[b_p0]]) hpk2 0 rfl)
 replace hj10_l6 := hj10_l6.step (plain_int _) he25 (MS.outs (P := [[b_p0]]) hpk2 1 rfl)
 replace hms := hms.ev he25
 replace hev := hev.then he25 (fun b hb => .inl (by simpa using hb))
 replace hb_p0 := hp25_0
 clear hpk hsb hsb0 hpk2 hsb2 hst0 hsn hst
 refine x_u 1 [(9, Vi x24.1)] ?_
 refine x_ek ?_
 refine c_block ?_
 have hst := Stp.push (ls := [blk a8_l6, B10_l6, [b_p0], M]) (l := blk none) (Ev.refl [] w25) (fun _ h => by cases h) (fun _ h => by cases h)
 replace hb_p0 := (Ev.refl [] _).box hb_p0 nn
 replace hs_p0_0 := hs_p0_0.step hst
 replace hj8_l6 := hj8_l6.step hst (Ev.refl [] _) nn2
 replace hj10_l6 := hj10_l6.step (plain_int _) (Ev.refl [] _) nn2
 replace hms := hms.push (l := blk none) (Ev.refl [] _) (fun _ h => by cases h)
 replace hfr := hfr.push (l := blk none) (fun _ h => by cases h)
 have ho27 := OwnS.nil (eInt .i64) 3 w25 (fl [blk none, blk a8_l6, B10_l6, [b_p0], M])
 have hpk : MS w25 [blk a8_l6, B10_l6, blk none, [b_p0], M] := hms.pick [some 1, some 2, some 0, some 3, some 4] _ rfl
 have hsu : ∀ x ∈ fl [blk a8_l6, B10_l6, blk none, [b_p0], M], x ∈ fl [blk none, blk a8_l6, B10_l6, [b_p0], M] := pick_sub [some 1, some 2, some 0, some 3, some 4] _ rfl
 replace hs_p0_0 := hs_p0_0.sub hsu
 replace hj8_l6 := hj8_l6.sub hsu
 replace ho27 := ho27.sub hsu
 replace hms := hpk
 replace hfr : FR w.heap.size [blk a8_l6, B10_l6, blk none] := hfr.pick [some 1, some 2, some 0] _ rfl
 clear hpk hsu
 obtain ⟨d26, hd26, h26⟩ := bind_some h
 obtain ⟨m26, hd26⟩ := loop_some hd26
 refine c_loop (loop_rule hmx (σ := Nat × Int × (List (List Int)) × (List Int) × Int × List Nat × Option Addr × Nat) (fun s => match s with | (_, e2_l26_1, d10_l26, d28_l26, i_s9_l26, B10_l26, a28_l26, c28_l26) => [(0, Vp b_p0 0), (5, .slice a8_l6 (d8_l6).length c8_l6), (6, .slice a10_l6 (d10_l26).length c10_l6), (8, .slice a28_l26 (d28_l26).length c28_l26), (9, Vi i_s9_l26)]) (fun s w' => match s with | (m, e2_l26_1, d10_l26, d28_l26, i_s9_l26, B10_l26, a28_l26, c28_l26) => loopN (law42_made_L26 p0_0 d8_l6) m (e2_l26_1, d10_l26, d28_l26, i_s9_l26) = some d26 ∧ Ev [b_p0] w w' ∧ MS w' [blk a8_l6, B10_l26, blk a28_l26, [b_p0], M] ∧ FR w.heap.size [blk a8_l6, B10_l26, blk a28_l26] ∧ SlR (eInt .i64) w' (fl [blk a8_l6, B10_l26, blk a28_l26, [b_p0], M]) a_p0_0 c_p0_0 p0_0 ∧ w'.heap[b_p0]? = some (.cells #[.slice a_p0_0 (p0_0).length c_p0_0, Vi e2_l26_1] 52 (0, 0)) ∧ OwnS (eProd eStr (eInt .i64)) 45 w' (fl [blk a8_l6, B10_l26, blk a28_l26, [b_p0], M]) a8_l6 c8_l6 d8_l6 ∧ OwnR (eInt .i64) 3 22 w' B10_l26 a10_l6 c10_l6 d10_l26 none ∧ OwnS (eInt .i64) 3 w' (fl [blk a8_l6, B10_l26, blk a28_l26, [b_p0], M]) a28_l26 c28_l26 d28_l26) (fun s => s.1) (m26, x24.2, d10_l6, ([] : List Int), x24.1, B10_l6, none, 0) ⟨rfl, rfl, rfl, rfl, rfl, trivial⟩ ⟨hd26, hev, hms, hfr, hs_p0_0, hb_p0, hj8_l6, hj10_l6, ho27⟩ ?_)
 rintro ⟨m26, e2_l26_1, d10_l26, d28_l26, i_s9_l26, B10_l26, a28_l26, c28_l26⟩ J wl26 ⟨hn26, hev, hms, hfr, hs_p0_0, hb_p0, hj8_l6, hj10_l6, hj28_l26⟩
 rcases m26 with _ | m26
 · exact (loopN_zero hn26).elim
 obtain ⟨t26, h, hn26⟩ := bind_some hn26
 refine c_seq ?_
 refine c_sp ?_
 refine x_u 2 [(32, Vi i_s9_l26), (33, .bool (decide (i_s9_l26 > 0)))] ?_
 refine x_ek ?_
 refine c_norm [(0, Vp b_p0 0), (5, .slice a8_l6 (d8_l6).length c8_l6), (6, .slice a10_l6 (d10_l26).length c10_l6), (8, .slice a28_l26 (d28_l26).length c28_l26), (9, Vi i_s9_l26), (33, .bool (decide (i_s9_l26 > 0)))] ⟨rfl, rfl, rfl, rfl, rfl, rfl, trivial⟩ (fun J => ?_)
 refine c_if (decide (i_s9_l26 > 0)) rfl h (fun h => ?_) (fun h => ?_)
 · refine c_skip ?_
   refine k_then ?_
   refine c_seq ?_
   refine c_block ?_
   refine c_sp ?_
   refine x_u 1 [(36, .slice a28_l26 (d28_l26).length c28_l26)] ?_
   refine x_len (vs := [.slice a28_l26 (d28_l26).length c28_l26]) (Vi ((d28_l26).length : Int)) rfl rfl rfl (reads_len tsl22 _ _ _ _ _) ?_
   refine x_u 2 [(38, Vp b_p0 0), (39, .slice a8_l6 (d8_l6).length c8_l6)] ?_
   refine x_len (vs := [.slice a8_l6 (d8_l6).length c8_l6]) (Vi ((d8_l6).length : Int)) rfl rfl rfl (reads_len tsl25 _ _ _ _ _) ?_
   refine x_u 1 [(41, Vi (IntKind.i64.wrap (((d8_l6).length : Int) + 1)))] ?_
   obtain ⟨x30, hx, h⟩ := bind_some h
   have hpk : MS wl26 ([[b_p0]] ++ [blk a8_l6, B10_l26, blk a28_l26, M]) := hms.pick [some 3, some 0, some 1, some 2, some 4] _ rfl
   have hsb0 : ∀ x ∈ fl ([[b_p0]] ++ [blk a8_l6, B10_l26, blk a28_l26, M]), x ∈ fl [blk a8_l6, B10_l26, blk a28_l26, [b_p0], M] := pick_sub [some 3, some 0, some 1, some 2, some 4] _ rfl
   have hsb : ∀ x ∈ fl ([[b_p0]] ++ [(fl [blk a8_l6, B10_l26, blk a28_l26, M])]), x ∈ fl [blk a8_l6, B10_l26, blk a28_l26, [b_p0], M] := fun x hx => hsb0 x (fl_unfold x hx)
   have hcall := gen_Maker_Next_w b_p0 a_p0_0 c_p0_0 p0_0 e2_l26_1 (IntKind.i64.wrap (((d8_l6).length : Int) + 1)) _ wl26 (fl [blk a8_l6, B10_l26, blk a28_l26, M]) (hpk.fold (P := [[b_p0]])) (hs_p0_0.sub hsb) hb_p0 hx
   refine x_call 14 #[] #[] [Vp b_p0 0, Vi (IntKind.i64.wrap (((d8_l6).length : Int) + 1))] _ rfl rfl rfl rfl hcall ?_
   rintro v w31 ⟨rfl, he31, hp31_0⟩
   clear hcall hx
   refine inl1 ?_
   have hpk2 : MS wl26 ([[b_p0]] ++ [blk a8_l6, B10_l26, blk a28_l26, M]) := hms.pick [some 3, some 0, some 1, some 2, some 4] _ rfl
   have hsb2 : ∀ x ∈ fl ([[b_p0]] ++ [blk a8_l6, B10_l26, blk a28_l26, M]), x ∈ fl [blk a8_l6, B10_l26, blk a28_l26, [b_p0], M] := pick_sub [some 3, some 0, some 1, some 2, some 4] _ rfl
   have hst0 := Stp.call (LS := [blk a8_l6, B10_l26, blk a28_l26, [b_p0], M]) (res := []) (par := [[b_p0]]) (R := [blk a8_l6, B10_l26, blk a28_l26, M]) he31 (fun b hb => hsb2 b (fl_left' (P := [[b_p0]]) b hb)) (FR.nil _) (NP.init _ _) (fun x hx => hsb2 x (fl_right' (P := [[b_p0]]) x hx))
   have hsn : ∀ x ∈ fl [blk a8_l6, B10_l26, blk a28_l26, [b_p0], M], x ∈ fl ([] ++ ([[b_p0]] ++ [blk a8_l6, B10_l26, blk a28_l26, M])) := pick_sub [some 1, some 2, some 3, some 0, some 4] _ rfl
   have hst := hst0.res hsn
   replace hs_p0_0 := hs_p0_0.step hst
   replace hj8_l6 := hj8_l6.step hst he31 (MS.outs (P := [[b_p0]]) hpk2 0 rfl)
   replace hj10_l6 := hj10_l6.step (plain_int _) he31 (MS.outs (P := [[b_p0]]) hpk2 1 rfl)
   replace hj28_l26 := hj28_l26.step hst he31 (MS.outs (P := [[b_p0]]) hpk2 2 rfl)
   replace hms := hms.ev he31
   replace hev := hev.then he31 (fun b hb => .inl (by simpa using hb))
   replace hb_p0 := hp31_0
   clear hpk hsb hsb0 hpk2 hsb2 hst0 hsn hst
   refine x_u 2 [(10, Vi ((d28_l26).length : Int)), (11, Vi x30.1)] ?_
   refine x_ek ?_
   refine c_sp ?_
   refine x_u 2 [(43, .slice a28_l26 (d28_l26).length c28_l26), (44, Vp b_p0 0)] ?_
   refine x_buildSlice (vs := [(0, Vi 1), (1, Vi 80), (2, Vi 142), (3, Vi 400)]) #[Vi 1, Vi 80, Vi 142, Vi 400] 3 rfl rfl rfl (by kernel_rfl) (fun b32 w32 hq32 hb32 he32 hz32 => ?_)
   refine inl1 ?_
   have hms0 := hms
   have hst := Stp.ext (ls := [blk a8_l6, B10_l26, blk a28_l26, [b_p0], M]) he32
   replace hb_p0 := he32.box hb_p0 nn
   replace hs_p0_0 := hs_p0_0.step hst
   replace hj8_l6 := hj8_l6.step hst he32 nn2
   replace hj10_l6 := hj10_l6.step (plain_int _) he32 nn2
   replace hj28_l26 := hj28_l26.step hst he32 nn2
   replace hms := hms.ev he32
   replace hev := hev.ext he32
   have hs32 : SlR (eInt .i64) w32 (fl [blk a8_l6, B10_l26, blk a28_l26, [b_p0], M]) (Ad b32 0) 4 ([1, 80, 142, 400]) := ro_of_box hms0 hq32 hb32 rfl rfl (cells_at (cs := [Vi 1, Vi 80, Vi 142, Vi 400]) (CellsOf.cons (c := [Vi 1]) rfl (CellsOf.cons (c := [Vi 80]) rfl (CellsOf.cons (c := [Vi 142]) rfl (CellsOf.cons (c := [Vi 400]) rfl CellsOf.nil)))))
   clear hb32 hms0
   obtain ⟨x34, hx, h⟩ := bind_some h
   have hpk : MS w32 ([[b_p0]] ++ [blk a8_l6, B10_l26, blk a28_l26, M]) := hms.pick [some 3, some 0, some 1, some 2, some 4] _ rfl
   have hsb0 : ∀ x ∈ fl ([[b_p0]] ++ [blk a8_l6, B10_l26, blk a28_l26, M]), x ∈ fl [blk a8_l6, B10_l26, blk a28_l26, [b_p0], M] := pick_sub [some 3, some 0, some 1, some 2, some 4] _ rfl
   have hsb : ∀ x ∈ fl ([[b_p0]] ++ [(fl [blk a8_l6, B10_l26, blk a28_l26, M])]), x ∈ fl [blk a8_l6, B10_l26, blk a28_l26, [b_p0], M] := fun x hx => hsb0 x (fl_unfold x hx)
   have hcall := gen_Maker_Pick_w b_p0 a_p0_0 c_p0_0 p0_0 x30.2 (Ad b32 0) 4 ([1, 80, 142, 400]) _ w32 (fl [blk a8_l6, B10_l26, blk a28_l26, M]) (hpk.fold (P := [[b_p0]])) (hs_p0_0.sub hsb) hb_p0 (hs32.sub hsb) hx
   refine x_call 15 #[] #[] [Vp b_p0 0, .slice (Ad b32 0) ([1, 80, 142, 400]).length 4] _ rfl rfl rfl rfl hcall ?_
   rintro v w35 ⟨rfl, he35, hp35_0⟩
   clear hcall hx
   refine inl1 ?_
   have hpk2 : MS w32 ([[b_p0]] ++ [blk a8_l6, B10_l26, blk a28_l26, M]) := hms.pick [some 3, some 0, some 1, some 2, some 4] _ rfl
   have hsb2 : ∀ x ∈ fl ([[b_p0]] ++ [blk a8_l6, B10_l26, blk a28_l26, M]), x ∈ fl [blk a8_l6, B10_l26, blk a28_l26, [b_p0], M] := pick_sub [some 3, some 0, some 1, some 2, some 4] _ rfl
   have hst0 := Stp.call (LS := [blk a8_l6, B10_l26, blk a28_l26, [b_p0], M]) (res := []) (par := [[b_p0]]) (R := [blk a8_l6, B10_l26, blk a28_l26, M]) he35 (fun b hb => hsb2 b (fl_left' (P := [[b_p0]]) b hb)) (FR.nil _) (NP.init _ _) (fun x hx => hsb2 x (fl_right' (P := [[b_p0]]) x hx))
   have hsn : ∀ x ∈ fl [blk a8_l6, B10_l26, blk a28_l26, [b_p0], M], x ∈ fl ([] ++ ([[b_p0]] ++ [blk a8_l6, B10_l26, blk a28_l26, M])) := pick_sub [some 1, some 2, some 3, some 0, some 4] _ rfl
   have hst := hst0.res hsn
   replace hs_p0_0 := hs_p0_0.step hst
   replace hj8_l6 := hj8_l6.step hst he35 (MS.outs (P := [[b_p0]]) hpk2 0 rfl)
   replace hj10_l6 := hj10_l6.step (plain_int _) he35 (MS.outs (P := [[b_p0]]) hpk2 1 rfl)
   replace hj28_l26 := hj28_l26.step hst he35 (MS.outs (P := [[b_p0]]) hpk2 2 rfl)
   replace hs32 := hs32.step hst
   replace hms := hms.ev he35
   replace hev := hev.then he35 (fun b hb => .inl (by simpa using hb))
   replace hb_p0 := hp35_0
   clear hpk hsb hsb0 hpk2 hsb2 hst0 hsn hst
   refine x_buildSlice (vs := [(0, Vi x34.1)]) #[Vi x34.1] 3 rfl rfl rfl (by kernel_rfl) (fun b36 w36 hq36 hb36 he36 hz36 => ?_)
   refine inl1 ?_
   have hms0 := hms
   have hst := Stp.ext (ls := [blk a8_l6, B10_l26, blk a28_l26, [b_p0], M]) he36
   replace hb_p0 := he36.box hb_p0 nn
   replace hs_p0_0 := hs_p0_0.step hst
   replace hj8_l6 := hj8_l6.step hst he36 nn2
   replace hj10_l6 := hj10_l6.step (plain_int _) he36 nn2
   replace hj28_l26 := hj28_l26.step hst he36 nn2
   replace hs32 := hs32.step hst
   replace hms := hms.ev he36
   replace hev := hev.ext he36
   have hs36 : SlR (eInt .i64) w36 (fl [blk a8_l6, B10_l26, blk a28_l26, [b_p0], M]) (Ad b36 0) 1 ([x34.1]) := ro_of_box hms0 hq36 hb36 rfl rfl (cells_at (cs := [Vi x34.1]) (CellsOf.cons (c := [Vi x34.1]) rfl CellsOf.nil))
   clear hb36 hms0
   have hg := guard_l h
   replace h := guard_r h
   obtain ⟨a38, c38, w38, hr38, he38, hn38, hm38, hw38⟩ := own_appendN tel22 22 hj28_l26 (mem_flat 2 rfl) hs36 hg
   refine x_builtin (vs := [.slice a28_l26 (d28_l26).length c28_l26, .slice (Ad b36 0) ([x34.1]).length 1]) _ w38 rfl rfl rfl rfl (run_value _ _ _ _ hr38) ?_
   refine inl1 ?_
   have hst : Stp (fl [blk a8_l6, B10_l26, blk a28_l26, [b_p0], M]) w36 (fl [blk a8_l6, B10_l26, blk a38, [b_p0], M]) w38 := Stp.upd 2 he38 rfl (fun b hb => (hn38 b hb).1)
   replace hb_p0 := he38.box hb_p0 (hms.apart 3 2 rfl rfl rfl _ mem1)
   replace hs_p0_0 := hs_p0_0.step hst
   replace hj8_l6 := hj8_l6.step hst he38 (hms.apart 0 2 rfl rfl rfl)
   replace hj10_l6 := hj10_l6.step (plain_int _) he38 (hms.apart 1 2 rfl rfl rfl)
   replace hs32 := hs32.step hst
   replace hs36 := hs36.step hst
   replace hms : MS w38 [blk a8_l6, B10_l26, blk a38, [b_p0], M] := hms.upd 2 he38 rfl hn38
   have hfr2 : FR w.heap.size [blk a8_l6, B10_l26, blk a38] := hfr.upd 2 rfl hev.size (fun b hb => (hn38 b hb).1)
   replace hev := hev.then he38 (fun b hb => .inr (hfr.at 2 rfl b hb))
   replace hfr := hfr2
   clear hfr2
   replace hj28_l26 := hw38 (fl [blk a8_l6, B10_l26, blk a38, [b_p0], M]) hst.new
   clear hw38
   refine x_u 1 [(8, .slice a38 ((d28_l26 ++ [x34.1])).length c38)] ?_
   refine x_ek ?_
   refine c_norm [(0, Vp b_p0 0), (5, .slice a8_l6 (d8_l6).length c8_l6), (6, .slice a10_l6 (d10_l26).length c10_l6), (8, .slice a38 ((d28_l26 ++ [x34.1])).length c38), (9, Vi i_s9_l26), (10, Vi ((d28_l26).length : Int)), (11, Vi x30.1)] ⟨rfl, rfl, rfl, rfl, rfl, rfl, rfl, trivial⟩ (fun J => ?_)
   refine c_sp ?_
   refine x_u 2 [(49, Vi x30.1), (50, .slice a8_l6 (d8_l6).length c8_l6)] ?_
   refine x_len (vs := [.slice a8_l6 (d8_l6).length c8_l6]) (Vi ((d8_l6).length : Int)) rfl rfl rfl (reads_len tsl25 _ _ _ _ _) ?_
   refine x_u 1 [(52, .bool (decide (x30.1 < ((d8_l6).length : Int))))] ?_
   refine x_ek ?_
   refine c_if (decide (x30.1 < ((d8_l6).length : Int))) rfl h (fun h => ?_) (fun h => ?_)
   · refine c_sp ?_
     refine x_u 4 [(53, .slice a10_l6 (d10_l26).length c10_l6), (54, Vi x30.1), (55, .slice a10_l6 (d10_l26).length c10_l6), (56, Vi x30.1)] ?_
     obtain ⟨x39, hx39, h⟩ := bind_some h
     obtain ⟨g39, ai39, ci39, hr39, hv39⟩ := OwnR.view (P := Try.prog) (Mo := []) tsl26 hj10_l6 hx39
     refine x_indexAddr (xv := .slice a10_l6 (d10_l26).length c10_l6) (yv := Vi x30.1) (.pointer (some ⟨g39, (Int.toNat x30.1), none⟩)) rfl rfl rfl rfl hr39 ?_
     refine x_load (xv := .pointer (some ⟨g39, (Int.toNat x30.1), none⟩)) (.slice ai39 (x39).length ci39) rfl rfl rfl (RView.load tcell22 hv39) ?_
     refine x_u 1 [(59, Vi ((d28_l26).length : Int))] ?_
     refine x_buildSlice (vs := [(0, Vi ((d28_l26).length : Int))]) #[Vi ((d28_l26).length : Int)] 3 rfl rfl rfl (by kernel_rfl) (fun b41 w41 hq41 hb41 he41 hz41 => ?_)
     refine inl1 ?_
     have hms0 := hms
     have hst := Stp.ext (ls := [blk a8_l6, B10_l26, blk a38, [b_p0], M]) he41
     replace hb_p0 := he41.box hb_p0 nn
     replace hs_p0_0 := hs_p0_0.step hst
     replace hj8_l6 := hj8_l6.step hst he41 nn2
     replace hj10_l6 := hj10_l6.step (plain_int _) he41 nn2
     replace hj28_l26 := hj28_l26.step hst he41 nn2
     replace hv39 := hv39.step (plain_int _) he41 nn2
     replace hms := hms.ev he41
     replace hev := hev.ext he41
     have hs41 : SlR (eInt .i64) w41 (fl [blk a8_l6, B10_l26, blk a38, [b_p0], M]) (Ad b41 0) 1 ([((d28_l26).length : Int)]) := ro_of_box hms0 hq41 hb41 rfl rfl (cells_at (cs := [Vi ((d28_l26).length : Int)]) (CellsOf.cons (c := [Vi ((d28_l26).length : Int)]) rfl CellsOf.nil))
     clear hb41 hms0
     obtain ⟨B43, hR43, ho43, hs1, hs2, hs3⟩ := OwnR.opn hj10_l6 hv39
     replace hj10_l6 := hR43
     have hms2 := hms.split 1 rfl hs2 hs1 hs3
     have hsu : ∀ x ∈ fl [blk ai39, blk a8_l6, B43, blk a38, [b_p0], M], x ∈ fl [blk a8_l6, B10_l26, blk a38, [b_p0], M] := split_sub (ls := [blk a8_l6, B10_l26, blk a38, [b_p0], M]) 1 rfl hs2 hs1
     replace hms : MS w41 [blk ai39, blk a8_l6, B43, blk a38, [b_p0], M] := hms2
     replace hfr : FR w.heap.size [blk ai39, blk a8_l6, B43, blk a38] := (hfr.upd 1 rfl hev.size (fun b hb => .inl (hs1 b hb))).push (fun b hb => hfr.at 1 rfl b (hs2 b hb))
     replace hs_p0_0 := hs_p0_0.sub hsu
     replace hj8_l6 := hj8_l6.sub hsu
     replace hj28_l26 := hj28_l26.sub hsu
     replace hs41 := hs41.sub hsu
     replace ho43 := OwnS.plain (M' := fl [blk ai39, blk a8_l6, B43, blk a38, [b_p0], M]) (plain_int _) ho43
     have hg43 := hv39.eq
     have hx43 := hv39.at_
     clear hv39 hms2 hs1 hs2 hs3 hsu
     have hg := guard_l h
     replace h := guard_r h
     obtain ⟨a45, c45, w45, hr45, he45, hn45, hm45, hw45⟩ := own_appendN tel22 22 ho43 (mem_flat 0 rfl) hs41 hg
     refine x_builtin (vs := [.slice ai39 (x39).length ci39, .slice (Ad b41 0) ([((d28_l26).length : Int)]).length 1]) _ w45 rfl rfl rfl rfl (run_value _ _ _ _ hr45) ?_
     refine inl1 ?_
     have hst : Stp (fl [blk ai39, blk a8_l6, B43, blk a38, [b_p0], M]) w41 (fl [blk a45, blk a8_l6, B43, blk a38, [b_p0], M]) w45 := Stp.upd 0 he45 rfl (fun b hb => (hn45 b hb).1)
     replace hb_p0 := he45.box hb_p0 (hms.apart 4 0 rfl rfl rfl _ mem1)
     replace hs_p0_0 := hs_p0_0.step hst
     replace hj8_l6 := hj8_l6.step hst he45 (hms.apart 1 0 rfl rfl rfl)
     replace hj10_l6 := hj10_l6.step (plain_int _) he45 (hms.apart 2 0 rfl rfl rfl)
     replace hj28_l26 := hj28_l26.step hst he45 (hms.apart 3 0 rfl rfl rfl)
     replace hs41 := hs41.step hst
     replace hms : MS w45 [blk a45, blk a8_l6, B43, blk a38, [b_p0], M] := hms.upd 0 he45 rfl hn45
     have hfr2 : FR w.heap.size [blk a45, blk a8_l6, B43, blk a38] := hfr.upd 0 rfl hev.size (fun b hb => (hn45 b hb).1)
     replace hev := hev.then he45 (fun b hb => .inr (hfr.at 0 rfl b hb))
     replace hfr := hfr2
     clear hfr2
     replace ho43 := hw45 (fl [blk a45, blk a8_l6, B43, blk a38, [b_p0], M]) hst.new
     clear hw45
     obtain ⟨x46, hx46, h⟩ := bind_some h
     obtain ⟨g46, hg46, hr46, hy46⟩ := OwnR.addr (P := Try.prog) (Mo := []) tsl26 hj10_l6 hx46
     refine x_indexAddr (xv := .slice a10_l6 (d10_l26).length c10_l6) (yv := Vi x30.1) (.pointer (some ⟨g46, (Int.toNat x30.1), none⟩)) rfl rfl rfl rfl hr46 ?_
     obtain ⟨w48, B48, hr48, he48, hn48, hR48⟩ := OwnR.cls (P := Try.prog) (plain_int _) tcell22 hj10_l6 hg46 hy46 ho43 (hms.apart 0 2 rfl rfl rfl) (hms.ltat 2 rfl)
     refine x_store w48 (xv := .pointer (some ⟨g46, (Int.toNat x30.1), none⟩)) (yv := .slice a45 ((x39 ++ [((d28_l26).length : Int)])).length c45) rfl rfl rfl rfl hr48 ?_
     refine inl1 ?_
     have hms2 := hms.merge (C := blk a45 ++ B43) 0 2 rfl rfl (fun x hx => List.mem_append.1 hx)
     replace hfr : FR w.heap.size [blk a8_l6, blk a45 ++ B43, blk a38] := (FR.cons (hfr.at 1 rfl) (FR.cons (fun b hb => (List.mem_append.1 hb).elim (hfr.at 0 rfl b) (hfr.at 2 rfl b)) (FR.cons (hfr.at 3 rfl) (FR.nil _))))
     have hsu : ∀ x ∈ fl [blk a8_l6, blk a45 ++ B43, blk a38, [b_p0], M], x ∈ fl [blk a45, blk a8_l6, B43, blk a38, [b_p0], M] := merge_sub (ls := [blk a45, blk a8_l6, B43, blk a38, [b_p0], M]) (C := blk a45 ++ B43) 0 2 rfl rfl (fun x hx => List.mem_append.1 hx)
     replace hms : MS w45 [blk a8_l6, blk a45 ++ B43, blk a38, [b_p0], M] := hms2
     replace hs_p0_0 := hs_p0_0.sub hsu
     replace hj8_l6 := hj8_l6.sub hsu
     replace hj28_l26 := hj28_l26.sub hsu
     replace hs41 := hs41.sub hsu
     clear hms2 hsu
     have hst : Stp (fl [blk a8_l6, blk a45 ++ B43, blk a38, [b_p0], M]) w45 (fl [blk a8_l6, B48, blk a38, [b_p0], M]) w48 := Stp.upd 1 he48 rfl (fun b hb => (hn48 b hb).1)
     replace hb_p0 := he48.box hb_p0 (hms.apart 3 1 rfl rfl rfl _ mem1)
     replace hs_p0_0 := hs_p0_0.step hst
     replace hj8_l6 := hj8_l6.step hst he48 (hms.apart 0 1 rfl rfl rfl)
     replace hj28_l26 := hj28_l26.step hst he48 (hms.apart 2 1 rfl rfl rfl)
     replace hs41 := hs41.step hst
     replace hms : MS w48 [blk a8_l6, B48, blk a38, [b_p0], M] := hms.upd 1 he48 rfl hn48
     have hfr2 : FR w.heap.size [blk a8_l6, B48, blk a38] := hfr.upd 1 rfl hev.size (fun b hb => (hn48 b hb).1)
     replace hev := hev.then he48 (fun b hb => .inr (hfr.at 1 rfl b hb))
     replace hfr := hfr2
     clear hfr2
     replace hj10_l6 := hR48
     have hsl : (Value.slice a10_l6 (d10_l26).length c10_l6) = (Value.slice a10_l6 ((d10_l26.set (Int.toNat x30.1) (x39 ++ [((d28_l26).length : Int)]))).length c10_l6) := by first | (rw [List.length_set]; done) | simp only [List.length_set]
     try rw [hsl]
     clear hsl
     refine x_ek ?_
     refine c_norm [(0, Vp b_p0 0), (5, .slice a8_l6 (d8_l6).length c8_l6), (6, .slice a10_l6 ((d10_l26.set (Int.toNat x30.1) (x39 ++ [((d28_l26).length : Int)]))).length c10_l6), (8, .slice a38 ((d28_l26 ++ [x34.1])).length c38), (9, Vi i_s9_l26), (11, Vi x30.1)] ⟨rfl, rfl, rfl, rfl, rfl, rfl, trivial⟩ (fun J => ?_)
     refine c_sp ?_
     refine x_u 3 [(63, .slice a8_l6 (d8_l6).length c8_l6), (64, .slice a38 ((d28_l26 ++ [x34.1])).length c38), (65, .slice a10_l6 ((d10_l26.set (Int.toNat x30.1) (x39 ++ [((d28_l26).length : Int)]))).length c10_l6)] ?_
     obtain ⟨x49, hx, h⟩ := bind_some h
     have hpk : MS w48 ([] ++ [[b_p0], M]) := hms.pick [some 3, some 4] _ rfl
     have hsb0 : ∀ x ∈ fl ([] ++ [[b_p0], M]), x ∈ fl [blk a8_l6, B48, blk a38, [b_p0], M] := pick_sub [some 3, some 4] _ rfl
     have hsb : ∀ x ∈ fl ([] ++ [(fl [[b_p0], M])]), x ∈ fl [blk a8_l6, B48, blk a38, [b_p0], M] := fun x hx => hsb0 x (fl_unfold x hx)
     have hcall := r42_Valid_w a8_l6 c8_l6 d8_l6 a38 c38 (d28_l26 ++ [x34.1]) a10_l6 c10_l6 (d10_l26.set (Int.toNat x30.1) (x39 ++ [((d28_l26).length : Int)])) _ w48 (fl [[b_p0], M]) (MS.fold (P := []) hpk) (hj8_l6.ro hsb (fun b hb hb2 => pick_out hms 0 rfl [some 3, some 4] ([] ++ [[b_p0], M]) rfl rfl b hb (fl_unfold b hb2))) (hj28_l26.ro hsb (fun b hb hb2 => pick_out hms 2 rfl [some 3, some 4] ([] ++ [[b_p0], M]) rfl rfl b hb (fl_unfold b hb2))) (OwnR.ro (plain_int _) hj10_l6 (fun b hb hb2 => pick_out hms 1 rfl [some 3, some 4] ([] ++ [[b_p0], M]) rfl rfl b hb (fl_unfold b hb2))) hx
     refine x_call 20 #[] #[] [.slice a8_l6 (d8_l6).length c8_l6, .slice a38 ((d28_l26 ++ [x34.1])).length c38, .slice a10_l6 ((d10_l26.set (Int.toNat x30.1) (x39 ++ [((d28_l26).length : Int)]))).length c10_l6] _ rfl rfl rfl rfl hcall ?_
     rintro v w50 ⟨rfl, he50⟩
     clear hcall hx
     refine inl1 ?_
     have hst := Stp.ext (ls := [blk a8_l6, B48, blk a38, [b_p0], M]) he50
     replace hb_p0 := he50.box hb_p0 nn
     replace hs_p0_0 := hs_p0_0.step hst
     replace hj8_l6 := hj8_l6.step hst he50 nn2
     replace hj10_l6 := hj10_l6.step (plain_int _) he50 nn2
     replace hj28_l26 := hj28_l26.step hst he50 nn2
     replace hms := hms.ev he50
     replace hev := hev.ext he50
     clear hpk hsb hsb0
     refine x_u 1 [(67, .bool (!x49))] ?_
     refine x_ek ?_
     refine c_if (!x49) rfl h (fun h => ?_) (fun h => ?_)
     · refine c_drawn [] [(0, false), (1, false), (2, false), (3, false), (4, false), (5, false), (6, false), (7, false), (8, false), (9, false), (10, false), (11, false), (12, false), (13, false), (14, true)] _ (by kernel_rfl) rfl ?_
       have hst := Stp.ext (ls := [blk a8_l6, B48, blk a38, [b_p0], M]) (Ev.drew w50)
       replace hb_p0 := (Ev.drew w50).box hb_p0 nn
       replace hs_p0_0 := hs_p0_0.step hst
       replace hj8_l6 := hj8_l6.step hst (Ev.drew w50) nn2
       replace hj10_l6 := hj10_l6.step (plain_int _) (Ev.drew w50) nn2
       replace hj28_l26 := hj28_l26.step hst (Ev.drew w50) nn2
       replace hms := hms.ev (Ev.drew w50)
       replace hev := hev.ext (Ev.drew w50)
       refine x_u 4 [(68, .slice a10_l6 ((d10_l26.set (Int.toNat x30.1) (x39 ++ [((d28_l26).length : Int)]))).length c10_l6), (69, Vi x30.1), (70, .slice a10_l6 ((d10_l26.set (Int.toNat x30.1) (x39 ++ [((d28_l26).length : Int)]))).length c10_l6), (71, Vi x30.1)] ?_
       obtain ⟨x51, hx51, h⟩ := bind_some h
       obtain ⟨g51, ai51, ci51, hr51, hv51⟩ := OwnR.view (P := Try.prog) (Mo := []) tsl26 hj10_l6 hx51
       refine x_indexAddr (xv := .slice a10_l6 ((d10_l26.set (Int.toNat x30.1) (x39 ++ [((d28_l26).length : Int)]))).length c10_l6) (yv := Vi x30.1) (.pointer (some ⟨g51, (Int.toNat x30.1), none⟩)) rfl rfl rfl rfl hr51 ?_
       refine x_load (xv := .pointer (some ⟨g51, (Int.toNat x30.1), none⟩)) (.slice ai51 (x51).length ci51) rfl rfl rfl (RView.load tcell22 hv51) ?_
       refine x_u 2 [(74, .slice a10_l6 ((d10_l26.set (Int.toNat x30.1) (x39 ++ [((d28_l26).length : Int)]))).length c10_l6), (75, Vi x30.1)] ?_
       obtain ⟨x53, hx53, h⟩ := bind_some h
       obtain ⟨g53, ai53, ci53, hr53, hv53⟩ := OwnR.view (P := Try.prog) (Mo := []) tsl26 hj10_l6 hx53
       refine x_indexAddr (xv := .slice a10_l6 ((d10_l26.set (Int.toNat x30.1) (x39 ++ [((d28_l26).length : Int)]))).length c10_l6) (yv := Vi x30.1) (.pointer (some ⟨g53, (Int.toNat x30.1), none⟩)) rfl rfl rfl rfl hr53 ?_
       refine x_load (xv := .pointer (some ⟨g53, (Int.toNat x30.1), none⟩)) (.slice ai53 (x53).length ci53) rfl rfl rfl (RView.load tcell22 hv53) ?_
       refine x_len (vs := [.slice ai53 (x53).length ci53]) (Vi ((x53).length : Int)) rfl rfl rfl (reads_len tsl22 _ _ _ _ _) ?_
       refine x_u 1 [(79, Vi (IntKind.i64.wrap (((x53).length : Int) - 1)))] ?_
       obtain ⟨⟨hqa56, hqb56, hqc56⟩, hqd56⟩ := RView.uniq hv51 hv53
       subst hqa56 hqb56 hqc56 hqd56
       obtain ⟨B57, hR57, ho57, hs1, hs2, hs3⟩ := OwnR.opn hj10_l6 hv51
       replace hj10_l6 := hR57
       have hms2 := hms.split 1 rfl hs2 hs1 hs3
       have hsu : ∀ x ∈ fl [blk ai51, blk a8_l6, B57, blk a38, [b_p0], M], x ∈ fl [blk a8_l6, B48, blk a38, [b_p0], M] := split_sub (ls := [blk a8_l6, B48, blk a38, [b_p0], M]) 1 rfl hs2 hs1
       replace hms : MS (w50).drew [blk ai51, blk a8_l6, B57, blk a38, [b_p0], M] := hms2
       replace hfr : FR w.heap.size [blk ai51, blk a8_l6, B57, blk a38] := (hfr.upd 1 rfl hev.size (fun b hb => .inl (hs1 b hb))).push (fun b hb => hfr.at 1 rfl b (hs2 b hb))
       replace hs_p0_0 := hs_p0_0.sub hsu
       replace hj8_l6 := hj8_l6.sub hsu
       replace hj28_l26 := hj28_l26.sub hsu
       replace ho57 := OwnS.plain (M' := fl [blk ai51, blk a8_l6, B57, blk a38, [b_p0], M]) (plain_int _) ho57
       have hg57 := hv51.eq
       have hx57 := hv51.at_
       clear hv51 hms2 hs1 hs2 hs3 hsu
       have hg57_54 := hv53.eq
       have hx57_54 := hv53.at_
       clear hv53
       have hg := guard_l h
       replace h := guard_r h
       have hr55 := reads_trunc (P := Try.prog) (Mo := []) (w := (w50).drew) tsl22 ai51 ci51 x51 (IntKind.i64.wrap (((x51).length : Int) - 1)) hg.1 hg.2 ho57.le
       replace ho57 := ho57.trunc (Int.toNat (IntKind.i64.wrap (((x51).length : Int) - 1)))
       refine x_slice (xv := .slice ai51 (x51).length ci51) (lv := none) (hv := some (Vi (IntKind.i64.wrap (((x51).length : Int) - 1)))) (mv := none) (.slice ai51 ((x51.take (Int.toNat (IntKind.i64.wrap (((x51).length : Int) - 1))))).length ci51) rfl rfl rfl rfl rfl rfl hr55 ?_
       obtain ⟨x59, hx59, h⟩ := bind_some h
       obtain ⟨g59, hg59, hr59, hy59⟩ := OwnR.addr (P := Try.prog) (Mo := []) tsl26 hj10_l6 hx59
       refine x_indexAddr (xv := .slice a10_l6 ((d10_l26.set (Int.toNat x30.1) (x39 ++ [((d28_l26).length : Int)]))).length c10_l6) (yv := Vi x30.1) (.pointer (some ⟨g59, (Int.toNat x30.1), none⟩)) rfl rfl rfl rfl hr59 ?_
       obtain ⟨w61, B61, hr61, he61, hn61, hR61⟩ := OwnR.cls (P := Try.prog) (plain_int _) tcell22 hj10_l6 hg59 hy59 ho57 (hms.apart 0 2 rfl rfl rfl) (hms.ltat 2 rfl)
       refine x_store w61 (xv := .pointer (some ⟨g59, (Int.toNat x30.1), none⟩)) (yv := .slice ai51 ((x51.take (Int.toNat (IntKind.i64.wrap (((x51).length : Int) - 1))))).length ci51) rfl rfl rfl rfl hr61 ?_
       refine inl1 ?_
       have hms2 := hms.merge (C := blk ai51 ++ B57) 0 2 rfl rfl (fun x hx => List.mem_append.1 hx)
       replace hfr : FR w.heap.size [blk a8_l6, blk ai51 ++ B57, blk a38] := (FR.cons (hfr.at 1 rfl) (FR.cons (fun b hb => (List.mem_append.1 hb).elim (hfr.at 0 rfl b) (hfr.at 2 rfl b)) (FR.cons (hfr.at 3 rfl) (FR.nil _))))
       have hsu : ∀ x ∈ fl [blk a8_l6, blk ai51 ++ B57, blk a38, [b_p0], M], x ∈ fl [blk ai51, blk a8_l6, B57, blk a38, [b_p0], M] := merge_sub (ls := [blk ai51, blk a8_l6, B57, blk a38, [b_p0], M]) (C := blk ai51 ++ B57) 0 2 rfl rfl (fun x hx => List.mem_append.1 hx)
       replace hms : MS (w50).drew [blk a8_l6, blk ai51 ++ B57, blk a38, [b_p0], M] := hms2
       replace hs_p0_0 := hs_p0_0.sub hsu
       replace hj8_l6 := hj8_l6.sub hsu
       replace hj28_l26 := hj28_l26.sub hsu
       clear hms2 hsu
       have hst : Stp (fl [blk a8_l6, blk ai51 ++ B57, blk a38, [b_p0], M]) (w50).drew (fl [blk a8_l6, B61, blk a38, [b_p0], M]) w61 := Stp.upd 1 he61 rfl (fun b hb => (hn61 b hb).1)
       replace hb_p0 := he61.box hb_p0 (hms.apart 3 1 rfl rfl rfl _ mem1)
       replace hs_p0_0 := hs_p0_0.step hst
       replace hj8_l6 := hj8_l6.step hst he61 (hms.apart 0 1 rfl rfl rfl)
       replace hj28_l26 := hj28_l26.step hst he61 (hms.apart 2 1 rfl rfl rfl)
       replace hms : MS w61 [blk a8_l6, B61, blk a38, [b_p0], M] := hms.upd 1 he61 rfl hn61
       have hfr2 : FR w.heap.size [blk a8_l6, B61, blk a38] := hfr.upd 1 rfl hev.size (fun b hb => (hn61 b hb).1)
       replace hev := hev.then he61 (fun b hb => .inr (hfr.at 1 rfl b hb))
       replace hfr := hfr2
       clear hfr2
       replace hj10_l6 := hR61
       have hsl : (Value.slice a10_l6 ((d10_l26.set (Int.toNat x30.1) (x39 ++ [((d28_l26).length : Int)]))).length c10_l6) = (Value.slice a10_l6 (((d10_l26.set (Int.toNat x30.1) (x39 ++ [((d28_l26).length : Int)])).set (Int.toNat x30.1) (x51.take (Int.toNat (IntKind.i64.wrap (((x51).length : Int) - 1)))))).length c10_l6) := by first | (rw [List.length_set]; done) | simp only [List.length_set]
       try rw [hsl]
       clear hsl
       refine x_end rfl ?_
       refine k_block ?_
       refine k_then ?_
       refine c_norm [(0, Vp b_p0 0), (5, .slice a8_l6 (d8_l6).length c8_l6), (6, .slice a10_l6 (((d10_l26.set (Int.toNat x30.1) (x39 ++ [((d28_l26).length : Int)])).set (Int.toNat x30.1) (x51.take (Int.toNat (IntKind.i64.wrap (((x51).length : Int) - 1)))))).length c10_l6), (8, .slice a38 ((d28_l26 ++ [x34.1])).length c38), (9, Vi i_s9_l26)] ⟨rfl, rfl, rfl, rfl, rfl, trivial⟩ (fun J => ?_)
       refine c_plain ?_
       refine x_u 3 [(34, Vi i_s9_l26), (35, Vi (IntKind.i64.wrap (i_s9_l26 - 1))), (9, Vi (IntKind.i64.wrap (i_s9_l26 - 1)))] ?_
       refine x_end rfl ?_
       have hx := some_inj h
       subst hx
       exact k_then ⟨(m26, x34.2, ((d10_l26.set (Int.toNat x30.1) (x39 ++ [((d28_l26).length : Int)])).set (Int.toNat x30.1) (x51.take (Int.toNat (IntKind.i64.wrap (((x51).length : Int) - 1))))), (d28_l26 ++ [x34.1]), IntKind.i64.wrap (i_s9_l26 - 1), B61, a38, c38), ⟨rfl, rfl, rfl, rfl, rfl, trivial⟩, ⟨hn26, hev, hms, hfr, hs_p0_0, hb_p0, hj8_l6, hj10_l6, hj28_l26⟩, Nat.lt_succ_self _⟩
     refine c_skip ?_
     refine k_block ?_
     refine k_then ?_
     refine c_plain ?_
     refine x_u 3 [(34, Vi i_s9_l26), (35, Vi (IntKind.i64.wrap (i_s9_l26 - 1))), (9, Vi (IntKind.i64.wrap (i_s9_l26 - 1)))] ?_
     refine x_end rfl ?_
     have hx := some_inj h
     subst hx
     exact k_then ⟨(m26, x34.2, (d10_l26.set (Int.toNat x30.1) (x39 ++ [((d28_l26).length : Int)])), (d28_l26 ++ [x34.1]), IntKind.i64.wrap (i_s9_l26 - 1), B48, a38, c38), ⟨rfl, rfl, rfl, rfl, rfl, trivial⟩, ⟨hn26, hev, hms, hfr, hs_p0_0, hb_p0, hj8_l6, hj10_l6, hj28_l26⟩, Nat.lt_succ_self _⟩
   refine c_skip ?_
   refine k_block ?_
   refine k_then ?_
   refine c_plain ?_
   refine x_u 3 [(34, Vi i_s9_l26), (35, Vi (IntKind.i64.wrap (i_s9_l26 - 1))), (9, Vi (IntKind.i64.wrap (i_s9_l26 - 1)))] ?_
   refine x_end rfl ?_
   have hx := some_inj h
   subst hx
   exact k_then ⟨(m26, x34.2, d10_l26, (d28_l26 ++ [x34.1]), IntKind.i64.wrap (i_s9_l26 - 1), B10_l26, a38, c38), ⟨rfl, rfl, rfl, rfl, rfl, trivial⟩, ⟨hn26, hev, hms, hfr, hs_p0_0, hb_p0, hj8_l6, hj10_l6, hj28_l26⟩, Nat.lt_succ_self _⟩
 refine c_exit ?_
 refine k_then_exit ?_
 have hx := some_inj h
 subst hx
 have hy := some_inj hn26
 subst hy
 replace h := h26
 refine k_then_exit ?_
 refine k_block_in ?_
 refine k_then ?_
 refine c_norm [(5, .slice a8_l6 (d8_l6).length c8_l6), (6, .slice a10_l6 (d10_l26).length c10_l6), (8, .slice a28_l26 (d28_l26).length c28_l26)] ⟨rfl, rfl, rfl, trivial⟩ (fun J => ?_)
 refine c_sp ?_
 refine x_u 6 [(82, .slice a8_l6 (d8_l6).length c8_l6), (83, .slice a28_l26 (d28_l26).length c28_l26), (84, .slice a10_l6 (d10_l26).length c10_l6), (2, .slice a8_l6 (d8_l6).length c8_l6), (3, .slice a28_l26 (d28_l26).length c28_l26), (4, .slice a10_l6 (d10_l26).length c10_l6)] ?_
 refine x_ek ?_
 refine c_ret ?_
 refine r_ret (r_vals [.slice a8_l6 (d8_l6).length c8_l6, .slice a28_l26 (d28_l26).length c28_l26, .slice a10_l6 (d10_l26).length c10_l6] ⟨rfl, rfl, rfl, trivial⟩ ?_)
 have hx := some_inj h
 subst hx
 have hmr : MS wl26 [blk a8_l6, blk a28_l26, B10_l26, [b_p0], M] := hms.pick [some 0, some 2, some 1, some 3, some 4] _ rfl
 have hsu : ∀ x ∈ fl [blk a8_l6, blk a28_l26, B10_l26, [b_p0], M], x ∈ fl [blk a8_l6, B10_l26, blk a28_l26, [b_p0], M] := pick_sub [some 0, some 2, some 1, some 3, some 4] _ rfl
 have hfe : FR w.heap.size [blk a8_l6, blk a28_l26, B10_l26] := hfr.pick [some 0, some 2, some 1] _ rfl
 exact ⟨a8_l6, c8_l6, a28_l26, c28_l26, a10_l6, c10_l6, B10_l26, rfl, hev, hb_p0, hmr, hfe, hj8_l6.sub hsu, hj28_l26.sub hsu, hj10_l6⟩
end Go.Proofs.Ytgeceohdppecgaa
