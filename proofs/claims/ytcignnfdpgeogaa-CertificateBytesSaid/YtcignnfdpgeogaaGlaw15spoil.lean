
/- Walks, printed by program: each function returns what the partial function of the same name returns. Conditions: those of each theorem. -/
import Derived.Test.YtcignnfdpgeogaaGT
import Derived.Test.YtcignnfdpgeogaaGgen
set_option linter.unusedVariables false
set_option linter.unusedSimpArgs false
set_option maxRecDepth 4000
namespace Go.Proofs.Ytcignnfdpgeogaa
open Go Go.V Go.Proofs
def law15_spoil_J40 (p0_0 : List Int) (p1_0_0 : Int) (p1_0_1 : List Int) (p1_1 : List Int) (x17 : Int × Int) (t88__s88_j40 : Bool) : Option (((Int × (List Int)) × (List Int)) × Int) :=
(if t88__s88_j40 = true then
((gen_Maker_Next p0_0 x17.2 (((([] : List Int) ++ p1_1)).length : Int)).bind fun x41 =>
((gen_Maker_Next p0_0 x41.2 8).bind fun x43 =>
((idx (([] : List Int) ++ p1_1) x41.1).bind fun x45 =>
some (((p1_0_0, (([] : List Int) ++ p1_0_1)), ((([] : List Int) ++ p1_1).set (Int.toNat x41.1) x43.1)), x43.2))))
else
((gen_Maker_Pick p0_0 x17.2 ([(-1), 1])).bind fun x51 =>
some (((IntKind.i64.wrap (p1_0_0 + x51.1), (([] : List Int) ++ p1_0_1)), (([] : List Int) ++ p1_1)), x51.2)))

def law15_spoil_J32 (p0_0 : List Int) (p1_0_0 : Int) (p1_0_1 : List Int) (p1_1 : List Int) (x17 : Int × Int) (t63__s63_j32 : Bool) : Option (((Int × (List Int)) × (List Int)) × Int) :=
(if t63__s63_j32 = true then
((gen_Maker_Next p0_0 x17.2 (((([] : List Int) ++ p1_1)).length : Int)).bind fun x33 =>
(if 0 ≤ x33.1 ∧ x33.1 ≤ ((([] : List Int) ++ p1_1).length : Int) then
(if 0 ≤ IntKind.i64.wrap (x33.1 + 1) ∧ IntKind.i64.wrap (x33.1 + 1) ≤ ((([] : List Int) ++ p1_1).length : Int) ∧ ((([] : List Int) ++ p1_1).length : Int) ≤ ((([] : List Int) ++ p1_1).length : Int) then
(if ((([] : List Int) ++ p1_1).take (Int.toNat x33.1)).length + (((([] : List Int) ++ p1_1).drop (Int.toNat (IntKind.i64.wrap (x33.1 + 1)))).take (Int.toNat ((([] : List Int) ++ p1_1).length : Int) - Int.toNat (IntKind.i64.wrap (x33.1 + 1)))).length ≤ 4294967296 then
some (((p1_0_0, (([] : List Int) ++ p1_0_1)), (((([] : List Int) ++ p1_1).take (Int.toNat x33.1)) ++ (((([] : List Int) ++ p1_1).drop (Int.toNat (IntKind.i64.wrap (x33.1 + 1)))).take (Int.toNat ((([] : List Int) ++ p1_1).length : Int) - Int.toNat (IntKind.i64.wrap (x33.1 + 1)))))), x33.2)
else none)
else none)
else none))
else
(if (x17.1 == 4) = true then
law15_spoil_J40 p0_0 p1_0_0 p1_0_1 p1_1 x17 (decide ((((([] : List Int) ++ p1_1)).length : Int) > 0))
else
law15_spoil_J40 p0_0 p1_0_0 p1_0_1 p1_1 x17 false))

def law15_spoil_J19 (p0_0 : List Int) (p1_0_0 : Int) (p1_0_1 : List Int) (p1_1 : List Int) (x17 : Int × Int) (t31__s31_j19 : Bool) : Option (((Int × (List Int)) × (List Int)) × Int) :=
(if t31__s31_j19 = true then
((gen_Maker_Next p0_0 x17.2 (((([] : List Int) ++ p1_0_1)).length : Int)).bind fun x20 =>
((idx (([] : List Int) ++ p1_0_1) x20.1).bind fun x22 =>
((gen_Maker_Pick p0_0 x20.2 ([(-1), 1, 2, (-4), 4])).bind fun x26 =>
((idx (([] : List Int) ++ p1_0_1) x20.1).bind fun x28 =>
some (((p1_0_0, ((([] : List Int) ++ p1_0_1).set (Int.toNat x20.1) (if (IntKind.i64.wrap (x22 + x26.1)) > 0 then (IntKind.i64.wrap (x22 + x26.1)) else 0))), (([] : List Int) ++ p1_1)), x26.2)))))
else
(if (decide (x17.1 < 4)) = true then
law15_spoil_J32 p0_0 p1_0_0 p1_0_1 p1_1 x17 (decide ((((([] : List Int) ++ p1_1)).length : Int) > 0))
else
law15_spoil_J32 p0_0 p1_0_0 p1_0_1 p1_1 x17 false))

def law15_spoil (p0_0 : List Int) (p0_1 : Int) (p1_0_0 : Int) (p1_0_1 : List Int) (p1_1 : List Int) : Option (((Int × (List Int)) × (List Int)) × Int) :=
(if ([] : List Int).length + p1_0_1.length ≤ 4294967296 then
(if ([] : List Int).length + p1_1.length ≤ 4294967296 then
((gen_Maker_Next p0_0 p0_1 6).bind fun x17 =>
(if (decide (x17.1 < 2)) = true then
law15_spoil_J19 p0_0 p1_0_0 p1_0_1 p1_1 x17 (decide ((((([] : List Int) ++ p1_0_1)).length : Int) > 0))
else
law15_spoil_J19 p0_0 p1_0_0 p1_0_1 p1_1 x17 false))
else none)
else none)

theorem law15_spoil_w (b_p0 : Nat) (a_p0_0 : Option Addr) (c_p0_0 : Nat) (p0_0 : List Int) (p0_1 : Int) (p1_0_0 : Int) (a_p1_0_1 : Option Addr) (c_p1_0_1 : Nat) (p1_0_1 : List Int) (a_p1_1 : Option Addr) (c_p1_1 : Nat) (p1_1 : List Int) (r : ((Int × (List Int)) × (List Int)) × Int) (w : World) (M : List Nat) (hms : MS w [[b_p0], M]) (hs_p0_0 : SlR (eInt .i64) w (fl [[b_p0], M]) a_p0_0 c_p0_0 p0_0) (hb_p0 : w.heap[b_p0]? = some (.cells #[.slice a_p0_0 (p0_0).length c_p0_0, Vi p0_1] 65 (0, 0))) (hs_p1_0_1 : SlR (eInt .i64) w (fl [[b_p0], M]) a_p1_0_1 c_p1_0_1 p1_0_1) (hs_p1_1 : SlR (eInt .i64) w (fl [[b_p0], M]) a_p1_1 c_p1_1 p1_1) (h : law15_spoil p0_0 p0_1 p1_0_0 p1_0_1 p1_1 = some r) : CallVC Try.prog 13 [Vp b_p0 0, .agg #[Vi p1_0_0, .slice a_p1_0_1 (p1_0_1).length c_p1_0_1, .slice a_p1_1 (p1_1).length c_p1_1]] w fun v w' => ∃ (a0' : Option Addr), ∃ (c0' : Nat), ∃ (a2' : Option Addr), ∃ (c2' : Nat), v = .agg #[Vi r.1.1.1, .slice a0' (r.1.1.2).length c0', .slice a2' (r.1.2).length c2'] ∧ Ev [b_p0] w w' ∧ w'.heap[b_p0]? = some (.cells #[.slice a_p0_0 (p0_0).length c_p0_0, Vi r.2] 65 (0, 0)) ∧ MS w' [blk a0', blk a2', [b_p0], M] ∧ FR w.heap.size [blk a0', blk a2'] ∧ OwnS (eInt .i64) 3 w' (fl [blk a0', blk a2', [b_p0], M]) a0' c0' r.1.1.2 ∧ OwnS (eInt .i64) 3 w' (fl [blk a0', blk a2', [b_p0], M]) a2' c2' r.1.2 := by
 refine calls_vc hmx Try.func13 (by kernel_rfl) rfl (rs := [.cell 4 29]) rfl (by kernel_rfl) (args := [Vp b_p0 0, .agg #[Vi p1_0_0, .slice a_p1_0_1 (p1_0_1).length c_p1_0_1, .slice a_p1_1 (p1_1).length c_p1_1]]) rfl ?_
 have hev : Ev [b_p0] w w := Ev.refl _ _
 have hfr : FR w.heap.size [] := FR.nil _
 refine c_sp ?_
 refine x_box (xv := .agg #[Vi p1_0_0, .slice a_p1_0_1 (p1_0_1).length c_p1_0_1, .slice a_p1_1 (p1_1).length c_p1_1]) rfl rfl rfl (fun b5 w5 hq5 hb5 he5 hz5 => ?_)
 replace hb5 : w5.heap[b5]? = some (.cells #[Vi p1_0_0, .slice a_p1_0_1 (p1_0_1).length c_p1_0_1, .slice a_p1_1 (p1_1).length c_p1_1] 29 (0, 0)) := hb5
 refine inl1 ?_
 have hst := Stp.box (ls := [[b_p0], M]) he5 hq5
 replace hs_p0_0 := hs_p0_0.step hst
 replace hb_p0 := he5.box hb_p0 nn
 replace hs_p1_0_1 := hs_p1_0_1.step hst
 replace hs_p1_1 := hs_p1_1.step hst
 replace hms := hms.box he5 hq5 hb5
 replace hfr := hfr.box hev.size hq5
 replace hev := hev.ext he5
 refine x_alloc (z := .agg #[Vi 0, .slice none 0 0, .slice none 0 0]) rfl rfl (by kernel_rfl) (fun b7 w7 hq7 hb7 he7 hz7 => ?_)
 replace hb7 : w7.heap[b7]? = some (.cells #[Vi 0, .slice none 0 0, .slice none 0 0] 29 (0, 0)) := hb7
 refine inl1 ?_
 have hst := Stp.box (ls := [[b5], [b_p0], M]) he7 hq7
 replace hs_p0_0 := hs_p0_0.step hst
 replace hb_p0 := he7.box hb_p0 nn
 replace hs_p1_0_1 := hs_p1_0_1.step hst
 replace hs_p1_1 := hs_p1_1.step hst
 replace hb5 := he7.box hb5 nn
 replace hms := hms.box he7 hq7 hb7
 replace hfr := hfr.box hev.size hq7
 replace hev := hev.ext he7
 refine x_ek ?_
 refine c_sp ?_
 refine x_buildSlice (vs := []) #[] 3 rfl rfl rfl (by kernel_rfl) (fun b9 w9 hq9 hb9 he9 hz9 => ?_)
 refine inl1 ?_
 obtain ⟨a9, ea9⟩ : ∃ a, a = some (⟨b9, 0, none⟩ : Addr) := ⟨_, rfl⟩
 have hw9 : ∀ M, OwnS (eInt .i64) 3 w9 M a9 0 ([] : List Int) := fun M => ea9 ▸ own_of_box hb9 (by decide) rfl rfl (cells_at (cs := []) CellsOf.nil)
 have hn9 : ∀ b ∈ blk a9, w7.heap.size ≤ b ∧ b < w9.heap.size := by subst ea9; intro b hb; simp only [blk, List.mem_singleton] at hb; subst hb; exact ⟨Nat.le_of_eq hq9.symm, lt_of_heap hb9⟩
 clear hb9
 have hst := Stp.push (ls := [[b7], [b5], [b_p0], M]) (l := blk a9) he9 (fun _ h => by cases h) (fun b hb => (hn9 b hb).1)
 replace hs_p0_0 := hs_p0_0.step hst
 replace hb_p0 := he9.box hb_p0 nn
 replace hs_p1_0_1 := hs_p1_0_1.step hst
 replace hs_p1_1 := hs_p1_1.step hst
 replace hb5 := he9.box hb5 nn
 replace hb7 := he9.box hb7 nn
 replace hms := hms.push he9 hn9
 replace hfr := hfr.push (fun b hb => Nat.le_trans hev.size (hn9 b hb).1)
 replace hev := hev.ext he9
 have ho9 := hw9 (fl [blk a9, [b7], [b5], [b_p0], M])
 clear hw9
 rw [← ea9]
 refine x_fieldAddr (xv := Vp b5 0) (Vp b5 0) rfl rfl rfl (reads_field tfld29_0 _ _) ?_
 refine x_fieldAddr (xv := Vp b5 0) (Vp b5 1) rfl rfl rfl (reads_field tfld27_1 _ _) ?_
 refine x_load (xv := Vp b5 1) (.slice a_p1_0_1 (p1_0_1).length c_p1_0_1) rfl rfl rfl (reads_box tcell22 hb5 nn 1 _ rfl) ?_
 have hg := guard_l h
 replace h := guard_r h
 obtain ⟨a11, c11, w11, hr11, he11, hn11, hm11, hw11⟩ := own_appendN tel22 22 ho9 (mem_flat 0 rfl) hs_p1_0_1 hg
 refine x_builtin (vs := [.slice a9 (([] : List Int)).length 0, .slice a_p1_0_1 (p1_0_1).length c_p1_0_1]) _ w11 rfl rfl rfl rfl (run_value _ _ _ _ hr11) ?_
 refine inl1 ?_
 have hst : Stp (fl [blk a9, [b7], [b5], [b_p0], M]) w9 (fl [blk a11, [b7], [b5], [b_p0], M]) w11 := Stp.upd 0 he11 rfl (fun b hb => (hn11 b hb).1)
 replace hs_p0_0 := hs_p0_0.step hst
 replace hb_p0 := he11.box hb_p0 (hms.apart 3 0 rfl rfl rfl _ mem1)
 replace hs_p1_0_1 := hs_p1_0_1.step hst
 replace hs_p1_1 := hs_p1_1.step hst
 replace hb5 := he11.box hb5 (hms.apart 2 0 rfl rfl rfl _ mem1)
 replace hb7 := he11.box hb7 (hms.apart 1 0 rfl rfl rfl _ mem1)
 replace hms : MS w11 [blk a11, [b7], [b5], [b_p0], M] := hms.upd 0 he11 rfl hn11
 have hfr2 : FR w.heap.size [blk a11, [b7], [b5]] := hfr.upd 0 rfl hev.size (fun b hb => (hn11 b hb).1)
 replace hev := hev.then he11 (fun b hb => .inr (hfr.at 0 rfl b hb))
 replace hfr := hfr2
 clear hfr2
 replace ho9 := hw11 (fl [blk a11, [b7], [b5], [b_p0], M]) hst.new
 clear hw11
 refine x_fieldAddr (xv := Vp b5 0) (Vp b5 0) rfl rfl rfl (reads_field tfld29_0 _ _) ?_
 refine x_fieldAddr (xv := Vp b5 0) (Vp b5 1) rfl rfl rfl (reads_field tfld27_1 _ _) ?_
 obtain ⟨w12, hr12, hb12, he12⟩ := store_box 1 (.slice a11 ((([] : List Int) ++ p1_0_1)).length c11) #[Vi p1_0_0, .slice a11 ((([] : List Int) ++ p1_0_1)).length c11, .slice a_p1_1 (p1_1).length c_p1_1] tcell22 hb5 rfl rfl rfl
 refine x_store w12 (xv := Vp b5 1) (yv := .slice a11 ((([] : List Int) ++ p1_0_1)).length c11) rfl rfl rfl rfl hr12 ?_
 refine inl1 ?_
 have hst := Stp.ev' (ls := [blk a11, [b7], [b5], [b_p0], M]) he12 (mem_flat 2 rfl)
 replace hs_p0_0 := hs_p0_0.step hst
 replace hb_p0 := he12.box hb_p0 (hms.apart 3 2 rfl rfl rfl _ mem1)
 replace hs_p1_0_1 := hs_p1_0_1.step hst
 replace hs_p1_1 := hs_p1_1.step hst
 replace hb7 := he12.box hb7 (hms.apart 1 2 rfl rfl rfl _ mem1)
 replace ho9 := ho9.step hst he12 (hms.apart 0 2 rfl rfl rfl)
 replace hms := hms.ev he12
 replace hev := hev.then he12 (fun b hb => .inr (hfr.at 2 rfl b hb))
 replace hb5 := hb12
 refine x_ek ?_
 refine c_sp ?_
 refine x_buildSlice (vs := []) #[] 3 rfl rfl rfl (by kernel_rfl) (fun b13 w13 hq13 hb13 he13 hz13 => ?_)
 refine inl1 ?_
 obtain ⟨a13, ea13⟩ : ∃ a, a = some (⟨b13, 0, none⟩ : Addr) := ⟨_, rfl⟩
 have hw13 : ∀ M, OwnS (eInt .i64) 3 w13 M a13 0 ([] : List Int) := fun M => ea13 ▸ own_of_box hb13 (by decide) rfl rfl (cells_at (cs := []) CellsOf.nil)
 have hn13 : ∀ b ∈ blk a13, w12.heap.size ≤ b ∧ b < w13.heap.size := by subst ea13; intro b hb; simp only [blk, List.mem_singleton] at hb; subst hb; exact ⟨Nat.le_of_eq hq13.symm, lt_of_heap hb13⟩
 clear hb13
 have hst := Stp.push (ls := [blk a11, [b7], [b5], [b_p0], M]) (l := blk a13) he13 (fun _ h => by cases h) (fun b hb => (hn13 b hb).1)
 replace hs_p0_0 := hs_p0_0.step hst
 replace hb_p0 := he13.box hb_p0 nn
 replace hs_p1_1 := hs_p1_1.step hst
 replace hb5 := he13.box hb5 nn
 replace hb7 := he13.box hb7 nn
 replace ho9 := ho9.step hst he13 nn2
 replace hms := hms.push he13 hn13
 replace hfr := hfr.push (fun b hb => Nat.le_trans hev.size (hn13 b hb).1)
 replace hev := hev.ext he13
 have ho13 := hw13 (fl [blk a13, blk a11, [b7], [b5], [b_p0], M])
 clear hw13
 rw [← ea13]
 refine x_fieldAddr (xv := Vp b5 0) (Vp b5 2) rfl rfl rfl (reads_field tfld29_1 _ _) ?_
 refine x_load (xv := Vp b5 2) (.slice a_p1_1 (p1_1).length c_p1_1) rfl rfl rfl (reads_box tcell22 hb5 nn 2 _ rfl) ?_
 have hg := guard_l h
 replace h := guard_r h
 obtain ⟨a15, c15, w15, hr15, he15, hn15, hm15, hw15⟩ := own_appendN tel22 22 ho13 (mem_flat 0 rfl) hs_p1_1 hg
 refine x_builtin (vs := [.slice a13 (([] : List Int)).length 0, .slice a_p1_1 (p1_1).length c_p1_1]) _ w15 rfl rfl rfl rfl (run_value _ _ _ _ hr15) ?_
 refine inl1 ?_
 have hst : Stp (fl [blk a13, blk a11, [b7], [b5], [b_p0], M]) w13 (fl [blk a15, blk a11, [b7], [b5], [b_p0], M]) w15 := Stp.upd 0 he15 rfl (fun b hb => (hn15 b hb).1)
 replace hs_p0_0 := hs_p0_0.step hst
 replace hb_p0 := he15.box hb_p0 (hms.apart 4 0 rfl rfl rfl _ mem1)
 replace hs_p1_1 := hs_p1_1.step hst
 replace hb5 := he15.box hb5 (hms.apart 3 0 rfl rfl rfl _ mem1)
 replace hb7 := he15.box hb7 (hms.apart 2 0 rfl rfl rfl _ mem1)
 replace ho9 := ho9.step hst he15 (hms.apart 1 0 rfl rfl rfl)
 replace hms : MS w15 [blk a15, blk a11, [b7], [b5], [b_p0], M] := hms.upd 0 he15 rfl hn15
 have hfr2 : FR w.heap.size [blk a15, blk a11, [b7], [b5]] := hfr.upd 0 rfl hev.size (fun b hb => (hn15 b hb).1)
 replace hev := hev.then he15 (fun b hb => .inr (hfr.at 0 rfl b hb))
 replace hfr := hfr2
 clear hfr2
 replace ho13 := hw15 (fl [blk a15, blk a11, [b7], [b5], [b_p0], M]) hst.new
 clear hw15
 refine x_fieldAddr (xv := Vp b5 0) (Vp b5 2) rfl rfl rfl (reads_field tfld29_1 _ _) ?_
 obtain ⟨w16, hr16, hb16, he16⟩ := store_box 2 (.slice a15 ((([] : List Int) ++ p1_1)).length c15) #[Vi p1_0_0, .slice a11 ((([] : List Int) ++ p1_0_1)).length c11, .slice a15 ((([] : List Int) ++ p1_1)).length c15] tcell22 hb5 rfl rfl rfl
 refine x_store w16 (xv := Vp b5 2) (yv := .slice a15 ((([] : List Int) ++ p1_1)).length c15) rfl rfl rfl rfl hr16 ?_
 refine inl1 ?_
 have hst := Stp.ev' (ls := [blk a15, blk a11, [b7], [b5], [b_p0], M]) he16 (mem_flat 3 rfl)
 replace hs_p0_0 := hs_p0_0.step hst
 replace hb_p0 := he16.box hb_p0 (hms.apart 4 3 rfl rfl rfl _ mem1)
 replace hs_p1_1 := hs_p1_1.step hst
 replace hb7 := he16.box hb7 (hms.apart 2 3 rfl rfl rfl _ mem1)
 replace ho9 := ho9.step hst he16 (hms.apart 1 3 rfl rfl rfl)
 replace ho13 := ho13.step hst he16 (hms.apart 0 3 rfl rfl rfl)
 replace hms := hms.ev he16
 replace hev := hev.then he16 (fun b hb => .inr (hfr.at 3 rfl b hb))
 replace hb5 := hb16
 refine x_ek ?_
 refine c_norm [(0, Vp b_p0 0), (3, Vp b5 0), (4, Vp b7 0)] ⟨rfl, rfl, rfl, trivial⟩ (fun J => ?_)
 refine c_seq ?_
 refine c_sp ?_
 refine x_u 1 [(20, Vp b_p0 0)] ?_
 obtain ⟨x17, hx, h⟩ := bind_some h
 have hpk : MS w16 ([[b_p0]] ++ [blk a15, blk a11, [b7], [b5], M]) := hms.pick [some 4, some 0, some 1, some 2, some 3, some 5] _ rfl
 have hsb0 : ∀ x ∈ fl ([[b_p0]] ++ [blk a15, blk a11, [b7], [b5], M]), x ∈ fl [blk a15, blk a11, [b7], [b5], [b_p0], M] := pick_sub [some 4, some 0, some 1, some 2, some 3, some 5] _ rfl
 have hsb : ∀ x ∈ fl ([[b_p0]] ++ [(fl [blk a15, blk a11, [b7], [b5], M])]), x ∈ fl [blk a15, blk a11, [b7], [b5], [b_p0], M] := fun x hx => hsb0 x (fl_unfold x hx)
 have hcall := gen_Maker_Next_w b_p0 a_p0_0 c_p0_0 p0_0 p0_1 6 _ w16 (fl [blk a15, blk a11, [b7], [b5], M]) (hpk.fold (P := [[b_p0]])) (hs_p0_0.sub hsb) hb_p0 hx
 refine x_call 37 #[] #[] [Vp b_p0 0, Vi 6] _ rfl rfl rfl rfl hcall ?_
 rintro v w18 ⟨rfl, he18, hp18_0⟩
 clear hcall hx
 refine inl1 ?_
 have hpk2 : MS w16 ([[b_p0]] ++ [blk a15, blk a11, [b7], [b5], M]) := hms.pick [some 4, some 0, some 1, some 2, some 3, some 5] _ rfl
 have hsb2 : ∀ x ∈ fl ([[b_p0]] ++ [blk a15, blk a11, [b7], [b5], M]), x ∈ fl [blk a15, blk a11, [b7], [b5], [b_p0], M] := pick_sub [some 4, some 0, some 1, some 2, some 3, some 5] _ rfl
 have hst0 := Stp.call (LS := [blk a15, blk a11, [b7], [b5], [b_p0], M]) (res := []) (par := [[b_p0]]) (R := [blk a15, blk a11, [b7], [b5], M]) he18 (fun b hb => hsb2 b (fl_left' (P := [[b_p0]]) b hb)) (FR.nil _) (NP.init _ _) (fun x hx => hsb2 x (fl_right' (P := [[b_p0]]) x hx))
 have hsn : ∀ x ∈ fl [blk a15, blk a11, [b7], [b5], [b_p0], M], x ∈ fl ([] ++ ([[b_p0]] ++ [blk a15, blk a11, [b7], [b5], M])) := pick_sub [some 1, some 2, some 3, some 4, some 0, some 5] _ rfl
 have hst := hst0.res hsn
 replace hs_p0_0 := hs_p0_0.step hst
 replace hb5 := he18.box hb5 ((MS.outs (P := [[b_p0]]) hpk2 3 rfl) _ mem1)
 replace hb7 := he18.box hb7 ((MS.outs (P := [[b_p0]]) hpk2 2 rfl) _ mem1)
 replace ho9 := ho9.step hst he18 (MS.outs (P := [[b_p0]]) hpk2 1 rfl)
 replace ho13 := ho13.step hst he18 (MS.outs (P := [[b_p0]]) hpk2 0 rfl)
 replace hms := hms.ev he18
 replace hev := hev.then he18 (fun b hb => .inl (by simpa using hb))
 replace hb_p0 := hp18_0
 clear hpk hsb hsb0 hpk2 hsb2 hst0 hsn hst
 refine x_u 1 [(5, Vi x17.1)] ?_
 refine x_ek ?_
 refine c_block ?_
 refine c_join (σ := Bool) (fun s => match s with | t31__s31_j19 => [(0, Vp b_p0 0), (3, Vp b5 0), (4, Vp b7 0), (5, Vi x17.1), (31, .bool t31__s31_j19)]) (fun s w' => match s with | t31__s31_j19 => law15_spoil_J19 p0_0 p1_0_0 p1_0_1 p1_1 x17 t31__s31_j19 = some r ∧ Ev [b_p0] w w' ∧ MS w' [blk a11, blk a15, [b5], [b7], [b_p0], M] ∧ FR w.heap.size [blk a11, blk a15, [b5], [b7]] ∧ SlR (eInt .i64) w' (fl [blk a11, blk a15, [b5], [b7], [b_p0], M]) a_p0_0 c_p0_0 p0_0 ∧ w'.heap[b_p0]? = some (.cells #[.slice a_p0_0 (p0_0).length c_p0_0, Vi x17.2] 65 (0, 0)) ∧ OwnS (eInt .i64) 3 w' (fl [blk a11, blk a15, [b5], [b7], [b_p0], M]) a11 c11 (([] : List Int) ++ p1_0_1) ∧ OwnS (eInt .i64) 3 w' (fl [blk a11, blk a15, [b5], [b7], [b_p0], M]) a15 c15 (([] : List Int) ++ p1_1) ∧ w'.heap[b5]? = some (.cells #[Vi p1_0_0, .slice a11 ((([] : List Int) ++ p1_0_1)).length c11, .slice a15 ((([] : List Int) ++ p1_1)).length c15] 29 (0, 0)) ∧ w'.heap[b7]? = some (.cells #[Vi 0, .slice none 0 0, .slice none 0 0] 29 (0, 0))) ?_ ?_
 · refine c_plain ?_
   refine x_u 3 [(32, Vi x17.1), (33, .bool (decide (x17.1 < 2))), (34, .bool (decide (x17.1 < 2)))] ?_
   refine x_if 34 (decide (x17.1 < 2)) rfl h (fun h => ?_) (fun h => ?_)
   · refine x_fieldAddr (xv := Vp b5 0) (Vp b5 0) rfl rfl rfl (reads_field tfld29_0 _ _) ?_
     refine x_fieldAddr (xv := Vp b5 0) (Vp b5 1) rfl rfl rfl (reads_field tfld27_1 _ _) ?_
     refine x_load (xv := Vp b5 1) (.slice a11 ((([] : List Int) ++ p1_0_1)).length c11) rfl rfl rfl (reads_box tcell22 hb5 nn 1 _ rfl) ?_
     refine x_len (vs := [.slice a11 ((([] : List Int) ++ p1_0_1)).length c11]) (Vi (((([] : List Int) ++ p1_0_1)).length : Int)) rfl rfl rfl (reads_len tsl22 _ _ _ _ _) ?_
     refine x_u 3 [(39, .bool (decide ((((([] : List Int) ++ p1_0_1)).length : Int) > 0))), (40, .bool (decide ((((([] : List Int) ++ p1_0_1)).length : Int) > 0))), (31, .bool (decide ((((([] : List Int) ++ p1_0_1)).length : Int) > 0)))] ?_
     refine x_end rfl ?_
     have hpk : MS w18 [blk a11, blk a15, [b5], [b7], [b_p0], M] := hms.pick [some 1, some 0, some 3, some 2, some 4, some 5] _ rfl
     have hsu : ∀ x ∈ fl [blk a11, blk a15, [b5], [b7], [b_p0], M], x ∈ fl [blk a15, blk a11, [b7], [b5], [b_p0], M] := pick_sub [some 1, some 0, some 3, some 2, some 4, some 5] _ rfl
     replace hs_p0_0 := hs_p0_0.sub hsu
     replace ho9 := ho9.sub hsu
     replace ho13 := ho13.sub hsu
     replace hms := hpk
     replace hfr : FR w.heap.size [blk a11, blk a15, [b5], [b7]] := hfr.pick [some 1, some 0, some 3, some 2] _ rfl
     clear hpk hsu
     exact k_then ⟨decide ((((([] : List Int) ++ p1_0_1)).length : Int) > 0), ⟨rfl, rfl, rfl, rfl, rfl, trivial⟩, h, hev, hms, hfr, hs_p0_0, hb_p0, ho9, ho13, hb5, hb7⟩
   refine x_u 7 [(35, undef), (36, undef), (37, undef), (38, undef), (39, undef), (40, .bool false), (31, .bool false)] ?_
   refine x_end rfl ?_
   have hpk : MS w18 [blk a11, blk a15, [b5], [b7], [b_p0], M] := hms.pick [some 1, some 0, some 3, some 2, some 4, some 5] _ rfl
   have hsu : ∀ x ∈ fl [blk a11, blk a15, [b5], [b7], [b_p0], M], x ∈ fl [blk a15, blk a11, [b7], [b5], [b_p0], M] := pick_sub [some 1, some 0, some 3, some 2, some 4, some 5] _ rfl
   replace hs_p0_0 := hs_p0_0.sub hsu
   replace ho9 := ho9.sub hsu
   replace ho13 := ho13.sub hsu
   replace hms := hpk
   replace hfr : FR w.heap.size [blk a11, blk a15, [b5], [b7]] := hfr.pick [some 1, some 0, some 3, some 2] _ rfl
   clear hpk hsu
   exact k_then ⟨false, ⟨rfl, rfl, rfl, rfl, rfl, trivial⟩, h, hev, hms, hfr, hs_p0_0, hb_p0, ho9, ho13, hb5, hb7⟩
 rintro t31__s31_j19 J wj19 ⟨h, hev, hms, hfr, hs_p0_0, hb_p0, ho9, ho13, hb5, hb7⟩
 refine c_if t31__s31_j19 rfl h (fun h => ?_) (fun h => ?_)
 · refine c_sp ?_
   refine x_u 1 [(41, Vp b_p0 0)] ?_
   refine x_fieldAddr (xv := Vp b5 0) (Vp b5 0) rfl rfl rfl (reads_field tfld29_0 _ _) ?_
   refine x_fieldAddr (xv := Vp b5 0) (Vp b5 1) rfl rfl rfl (reads_field tfld27_1 _ _) ?_
   refine x_load (xv := Vp b5 1) (.slice a11 ((([] : List Int) ++ p1_0_1)).length c11) rfl rfl rfl (reads_box tcell22 hb5 nn 1 _ rfl) ?_
   refine x_len (vs := [.slice a11 ((([] : List Int) ++ p1_0_1)).length c11]) (Vi (((([] : List Int) ++ p1_0_1)).length : Int)) rfl rfl rfl (reads_len tsl22 _ _ _ _ _) ?_
   obtain ⟨x20, hx, h⟩ := bind_some h
   have hpk : MS wj19 ([[b_p0]] ++ [blk a11, blk a15, [b5], [b7], M]) := hms.pick [some 4, some 0, some 1, some 2, some 3, some 5] _ rfl
   have hsb0 : ∀ x ∈ fl ([[b_p0]] ++ [blk a11, blk a15, [b5], [b7], M]), x ∈ fl [blk a11, blk a15, [b5], [b7], [b_p0], M] := pick_sub [some 4, some 0, some 1, some 2, some 3, some 5] _ rfl
   have hsb : ∀ x ∈ fl ([[b_p0]] ++ [(fl [blk a11, blk a15, [b5], [b7], M])]), x ∈ fl [blk a11, blk a15, [b5], [b7], [b_p0], M] := fun x hx => hsb0 x (fl_unfold x hx)
   have hcall := gen_Maker_Next_w b_p0 a_p0_0 c_p0_0 p0_0 x17.2 (((([] : List Int) ++ p1_0_1)).length : Int) _ wj19 (fl [blk a11, blk a15, [b5], [b7], M]) (hpk.fold (P := [[b_p0]])) (hs_p0_0.sub hsb) hb_p0 hx
   refine x_call 37 #[] #[] [Vp b_p0 0, Vi (((([] : List Int) ++ p1_0_1)).length : Int)] _ rfl rfl rfl rfl hcall ?_
   rintro v w21 ⟨rfl, he21, hp21_0⟩
   clear hcall hx
   refine inl1 ?_
   have hpk2 : MS wj19 ([[b_p0]] ++ [blk a11, blk a15, [b5], [b7], M]) := hms.pick [some 4, some 0, some 1, some 2, some 3, some 5] _ rfl
   have hsb2 : ∀ x ∈ fl ([[b_p0]] ++ [blk a11, blk a15, [b5], [b7], M]), x ∈ fl [blk a11, blk a15, [b5], [b7], [b_p0], M] := pick_sub [some 4, some 0, some 1, some 2, some 3, some 5] _ rfl
   have hst0 := Stp.call (LS := [blk a11, blk a15, [b5], [b7], [b_p0], M]) (res := []) (par := [[b_p0]]) (R := [blk a11, blk a15, [b5], [b7], M]) he21 (fun b hb => hsb2 b (fl_left' (P := [[b_p0]]) b hb)) (FR.nil _) (NP.init _ _) (fun x hx => hsb2 x (fl_right' (P := [[b_p0]]) x hx))
   have hsn : ∀ x ∈ fl [blk a11, blk a15, [b5], [b7], [b_p0], M], x ∈ fl ([] ++ ([[b_p0]] ++ [blk a11, blk a15, [b5], [b7], M])) := pick_sub [some 1, some 2, some 3, some 4, some 0, some 5] _ rfl
   have hst := hst0.res hsn
   replace hs_p0_0 := hs_p0_0.step hst
   replace hb5 := he21.box hb5 ((MS.outs (P := [[b_p0]]) hpk2 2 rfl) _ mem1)
   replace ho9 := ho9.step hst he21 (MS.outs (P := [[b_p0]]) hpk2 0 rfl)
   replace ho13 := ho13.step hst he21 (MS.outs (P := [[b_p0]]) hpk2 1 rfl)
   replace hb7 := he21.box hb7 ((MS.outs (P := [[b_p0]]) hpk2 3 rfl) _ mem1)
   replace hms := hms.ev he21
   replace hev := hev.then he21 (fun b hb => .inl (by simpa using hb))
   replace hb_p0 := hp21_0
   clear hpk hsb hsb0 hpk2 hsb2 hst0 hsn hst
   refine x_u 1 [(6, Vi x20.1)] ?_
   refine x_ek ?_
   refine c_norm [(0, Vp b_p0 0), (3, Vp b5 0), (4, Vp b7 0), (6, Vi x20.1)] ⟨rfl, rfl, rfl, rfl, trivial⟩ (fun J => ?_)
   refine c_drawn [b_p0] [(0, false), (1, false), (2, false), (3, false), (4, false), (5, false), (6, false), (7, false), (8, false), (9, false), (10, false), (11, false), (12, false), (13, true), (14, true), (15, true), (16, true)] _ (by kernel_rfl) rfl ?_
   have hst := Stp.ext (ls := [blk a11, blk a15, [b5], [b7], [b_p0], M]) (Ev.drew w21)
   replace hb_p0 := (Ev.drew w21).box hb_p0 nn
   replace hs_p0_0 := hs_p0_0.step hst
   replace hb5 := (Ev.drew w21).box hb5 nn
   replace ho9 := ho9.step hst (Ev.drew w21) nn2
   replace ho13 := ho13.step hst (Ev.drew w21) nn2
   replace hb7 := (Ev.drew w21).box hb7 nn
   replace hms := hms.ev (Ev.drew w21)
   replace hev := hev.ext (Ev.drew w21)
   refine x_fieldAddr (xv := Vp b5 0) (Vp b5 0) rfl rfl rfl (reads_field tfld29_0 _ _) ?_
   refine x_fieldAddr (xv := Vp b5 0) (Vp b5 1) rfl rfl rfl (reads_field tfld27_1 _ _) ?_
   refine x_load (xv := Vp b5 1) (.slice a11 ((([] : List Int) ++ p1_0_1)).length c11) rfl rfl rfl (reads_box tcell22 hb5 ((hms.apart 2 4 rfl rfl rfl) _ mem1) 1 _ rfl) ?_
   refine x_u 1 [(50, Vi x20.1)] ?_
   refine x_fieldAddr (xv := Vp b5 0) (Vp b5 0) rfl rfl rfl (reads_field tfld29_0 _ _) ?_
   refine x_fieldAddr (xv := Vp b5 0) (Vp b5 1) rfl rfl rfl (reads_field tfld27_1 _ _) ?_
   refine x_load (xv := Vp b5 1) (.slice a11 ((([] : List Int) ++ p1_0_1)).length c11) rfl rfl rfl (reads_box tcell22 hb5 ((hms.apart 2 4 rfl rfl rfl) _ mem1) 1 _ rfl) ?_
   refine x_u 1 [(54, Vi x20.1)] ?_
   obtain ⟨x22, hx22, h⟩ := bind_some h
   obtain ⟨g22, cs22, ha22, hr22, hc22, hR⟩ := own_index (Mo := [b_p0]) tsl22 ho9 hx22
   obtain rfl := hR
   refine x_indexAddr (xv := .slice a11 ((([] : List Int) ++ p1_0_1)).length c11) (yv := Vi x20.1) (.pointer (some ⟨g22, (Int.toNat x20.1) * (eInt .i64).n, none⟩)) rfl rfl rfl rfl hr22 ?_
   refine x_load (xv := .pointer (some ⟨g22, (Int.toNat x20.1) * (eInt .i64).n, none⟩)) (Vi x22) rfl rfl rfl (reads_cell0 tcell3 (CellsAt.away hc22 ((hms.apart 0 4 rfl rfl rfl) _ (blk_mem ha22))) (fun b hb => hb)) ?_
   refine x_u 1 [(57, Vp b_p0 0)] ?_
   refine x_buildSlice (vs := [(0, Vi (-1)), (1, Vi 1), (2, Vi 2), (3, Vi (-4)), (4, Vi 4)]) #[Vi (-1), Vi 1, Vi 2, Vi (-4), Vi 4] 3 rfl rfl rfl (by kernel_rfl) (fun b24 w24 hq24 hb24 he24 hz24 => ?_)
   refine ⟨.inr (he24.nil), ?_⟩
   have hms0 := hms
   have hst := Stp.ext (ls := [blk a11, blk a15, [b5], [b7], [b_p0], M]) he24
   replace hb_p0 := he24.box hb_p0 nn
   replace hs_p0_0 := hs_p0_0.step hst
   replace hb5 := he24.box hb5 nn
   replace ho9 := ho9.step hst he24 nn2
   replace ho13 := ho13.step hst he24 nn2
   replace hb7 := he24.box hb7 nn
   replace hms := hms.ev he24
   replace hev := hev.ext he24
   have hs24 : SlR (eInt .i64) w24 (fl [blk a11, blk a15, [b5], [b7], [b_p0], M]) (Ad b24 0) 5 ([(-1), 1, 2, (-4), 4]) := ro_of_box hms0 hq24 hb24 rfl rfl (cells_at (cs := [Vi (-1), Vi 1, Vi 2, Vi (-4), Vi 4]) (CellsOf.cons (c := [Vi (-1)]) rfl (CellsOf.cons (c := [Vi 1]) rfl (CellsOf.cons (c := [Vi 2]) rfl (CellsOf.cons (c := [Vi (-4)]) rfl (CellsOf.cons (c := [Vi 4]) rfl CellsOf.nil))))))
   clear hb24 hms0
   obtain ⟨x26, hx, h⟩ := bind_some h
   have hpk : MS w24 ([[b_p0]] ++ [blk a11, blk a15, [b5], [b7], M]) := hms.pick [some 4, some 0, some 1, some 2, some 3, some 5] _ rfl
   have hsb0 : ∀ x ∈ fl ([[b_p0]] ++ [blk a11, blk a15, [b5], [b7], M]), x ∈ fl [blk a11, blk a15, [b5], [b7], [b_p0], M] := pick_sub [some 4, some 0, some 1, some 2, some 3, some 5] _ rfl
   have hsb : ∀ x ∈ fl ([[b_p0]] ++ [(fl [blk a11, blk a15, [b5], [b7], M])]), x ∈ fl [blk a11, blk a15, [b5], [b7], [b_p0], M] := fun x hx => hsb0 x (fl_unfold x hx)
   have hcall := gen_Maker_Pick_w b_p0 a_p0_0 c_p0_0 p0_0 x20.2 (Ad b24 0) 5 ([(-1), 1, 2, (-4), 4]) _ w24 (fl [blk a11, blk a15, [b5], [b7], M]) (hpk.fold (P := [[b_p0]])) (hs_p0_0.sub hsb) hb_p0 (hs24.sub hsb) hx
   refine x_call 31 #[] #[] [Vp b_p0 0, .slice (Ad b24 0) ([(-1), 1, 2, (-4), 4]).length 5] _ rfl rfl rfl rfl hcall ?_
   rintro v w27 ⟨rfl, he27, hp27_0⟩
   clear hcall hx
   refine ⟨.inr he27, ?_⟩
   have hpk2 : MS w24 ([[b_p0]] ++ [blk a11, blk a15, [b5], [b7], M]) := hms.pick [some 4, some 0, some 1, some 2, some 3, some 5] _ rfl
   have hsb2 : ∀ x ∈ fl ([[b_p0]] ++ [blk a11, blk a15, [b5], [b7], M]), x ∈ fl [blk a11, blk a15, [b5], [b7], [b_p0], M] := pick_sub [some 4, some 0, some 1, some 2, some 3, some 5] _ rfl
   have hst0 := Stp.call (LS := [blk a11, blk a15, [b5], [b7], [b_p0], M]) (res := []) (par := [[b_p0]]) (R := [blk a11, blk a15, [b5], [b7], M]) he27 (fun b hb => hsb2 b (fl_left' (P := [[b_p0]]) b hb)) (FR.nil _) (NP.init _ _) (fun x hx => hsb2 x (fl_right' (P := [[b_p0]]) x hx))
   have hsn : ∀ x ∈ fl [blk a11, blk a15, [b5], [b7], [b_p0], M], x ∈ fl ([] ++ ([[b_p0]] ++ [blk a11, blk a15, [b5], [b7], M])) := pick_sub [some 1, some 2, some 3, some 4, some 0, some 5] _ rfl
   have hst := hst0.res hsn
   replace hs_p0_0 := hs_p0_0.step hst
   replace hb5 := he27.box hb5 ((MS.outs (P := [[b_p0]]) hpk2 2 rfl) _ mem1)
   replace ho9 := ho9.step hst he27 (MS.outs (P := [[b_p0]]) hpk2 0 rfl)
   replace ho13 := ho13.step hst he27 (MS.outs (P := [[b_p0]]) hpk2 1 rfl)
   replace hb7 := he27.box hb7 ((MS.outs (P := [[b_p0]]) hpk2 3 rfl) _ mem1)
   replace hs24 := hs24.step hst
   replace hms := hms.ev he27
   replace hev := hev.then he27 (fun b hb => .inl (by simpa using hb))
   replace hb_p0 := hp27_0
   clear hpk hsb hsb0 hpk2 hsb2 hst0 hsn hst
   refine x_u 1 [(60, Vi (IntKind.i64.wrap (x22 + x26.1)))] ?_
   refine x_max (vs := [Vi 0, Vi (IntKind.i64.wrap (x22 + x26.1))]) (Vi (if (IntKind.i64.wrap (x22 + x26.1)) > 0 then (IntKind.i64.wrap (x22 + x26.1)) else 0)) rfl rfl rfl (fun _ _ => rfl) ?_
   obtain ⟨x28, hx28, h⟩ := bind_some h
   obtain ⟨g28, cs28, ha28, hr28, hc28, hR⟩ := own_index (Mo := []) tsl22 ho9 hx28
   obtain rfl := hR
   refine x_indexAddr (xv := .slice a11 ((([] : List Int) ++ p1_0_1)).length c11) (yv := Vi x20.1) (.pointer (some ⟨g28, (Int.toNat x20.1) * (eInt .i64).n, none⟩)) rfl rfl rfl rfl hr28 ?_
   have hxs29_23 := hx22
   obtain ⟨w30, hr30, he30, ho30⟩ := own_storeE ha28 (y := if (IntKind.i64.wrap (x22 + x26.1)) > 0 then (IntKind.i64.wrap (x22 + x26.1)) else 0) 0 (Vi (if (IntKind.i64.wrap (x22 + x26.1)) > 0 then (IntKind.i64.wrap (x22 + x26.1)) else 0)) tcell3 ho9 (mem_flat 0 rfl) hx28 rfl rfl (fun _ _ _ hR => set_int hR)
   refine x_store w30 (xv := .pointer (some ⟨g28, (Int.toNat x20.1) * (eInt .i64).n, none⟩)) (yv := Vi (if (IntKind.i64.wrap (x22 + x26.1)) > 0 then (IntKind.i64.wrap (x22 + x26.1)) else 0)) rfl rfl rfl rfl hr30 ?_
   refine inl1 ?_
   have hst := Stp.ev' (ls := [blk a11, blk a15, [b5], [b7], [b_p0], M]) he30 (mem_flat 0 rfl)
   replace hb_p0 := he30.box hb_p0 (hms.apart 4 0 rfl rfl rfl _ mem1)
   replace hs_p0_0 := hs_p0_0.step hst
   replace hb5 := he30.box hb5 (hms.apart 2 0 rfl rfl rfl _ mem1)
   replace ho13 := ho13.step hst he30 (hms.apart 1 0 rfl rfl rfl)
   replace hb7 := he30.box hb7 (hms.apart 3 0 rfl rfl rfl _ mem1)
   replace hs24 := hs24.step hst
   replace hms := hms.ev he30
   replace hev := hev.then he30 (fun b hb => .inr (hfr.at 0 rfl b hb))
   replace ho9 := ho30
   have hsl : (Value.slice a11 ((([] : List Int) ++ p1_0_1)).length c11) = (Value.slice a11 (((([] : List Int) ++ p1_0_1).set (Int.toNat x20.1) (if (IntKind.i64.wrap (x22 + x26.1)) > 0 then (IntKind.i64.wrap (x22 + x26.1)) else 0))).length c11) := by first | (rw [List.length_set]; done) | simp only [List.length_set]
   rw [hsl] at hb5
   try rw [hsl]
   clear hsl
   obtain ⟨_, hxs29_23⟩ : ∃ y, idx ((([] : List Int) ++ p1_0_1).set (Int.toNat x20.1) (if (IntKind.i64.wrap (x22 + x26.1)) > 0 then (IntKind.i64.wrap (x22 + x26.1)) else 0)) x20.1 = some y := idx_set_any hxs29_23 _ _
   refine x_end rfl ?_
   refine k_block ?_
   refine k_then ?_
   refine c_norm [(3, Vp b5 0), (4, Vp b7 0)] ⟨rfl, rfl, trivial⟩ (fun J => ?_)
   refine c_sp ?_
   refine x_load (xv := Vp b5 0) (.agg #[Vi p1_0_0, .slice a11 (((([] : List Int) ++ p1_0_1).set (Int.toNat x20.1) (if (IntKind.i64.wrap (x22 + x26.1)) > 0 then (IntKind.i64.wrap (x22 + x26.1)) else 0))).length c11, .slice a15 ((([] : List Int) ++ p1_1)).length c15]) rfl rfl rfl (reads_boxagg 0 [Vi p1_0_0, .slice a11 (((([] : List Int) ++ p1_0_1).set (Int.toNat x20.1) (if (IntKind.i64.wrap (x22 + x26.1)) > 0 then (IntKind.i64.wrap (x22 + x26.1)) else 0))).length c11, .slice a15 ((([] : List Int) ++ p1_1)).length c15] tagg29 hb5 nn rfl) ?_
   obtain ⟨w31, hr31, hb31, he31⟩ := store_boxagg 0 [Vi p1_0_0, .slice a11 (((([] : List Int) ++ p1_0_1).set (Int.toNat x20.1) (if (IntKind.i64.wrap (x22 + x26.1)) > 0 then (IntKind.i64.wrap (x22 + x26.1)) else 0))).length c11, .slice a15 ((([] : List Int) ++ p1_1)).length c15] #[Vi p1_0_0, .slice a11 (((([] : List Int) ++ p1_0_1).set (Int.toNat x20.1) (if (IntKind.i64.wrap (x22 + x26.1)) > 0 then (IntKind.i64.wrap (x22 + x26.1)) else 0))).length c11, .slice a15 ((([] : List Int) ++ p1_1)).length c15] tagg29 hb7 rfl rfl rfl
   refine x_store w31 (xv := Vp b7 0) (yv := .agg #[Vi p1_0_0, .slice a11 (((([] : List Int) ++ p1_0_1).set (Int.toNat x20.1) (if (IntKind.i64.wrap (x22 + x26.1)) > 0 then (IntKind.i64.wrap (x22 + x26.1)) else 0))).length c11, .slice a15 ((([] : List Int) ++ p1_1)).length c15]) rfl rfl rfl rfl hr31 ?_
   refine inl1 ?_
   have hst := Stp.ev' (ls := [blk a11, blk a15, [b5], [b7], [b_p0], M]) he31 (mem_flat 3 rfl)
   replace hb_p0 := he31.box hb_p0 (hms.apart 4 3 rfl rfl rfl _ mem1)
   replace hs_p0_0 := hs_p0_0.step hst
   replace hb5 := he31.box hb5 (hms.apart 2 3 rfl rfl rfl _ mem1)
   replace ho9 := ho9.step hst he31 (hms.apart 0 3 rfl rfl rfl)
   replace ho13 := ho13.step hst he31 (hms.apart 1 3 rfl rfl rfl)
   replace hms := hms.ev he31
   replace hev := hev.then he31 (fun b hb => .inr (hfr.at 3 rfl b hb))
   replace hb7 := hb31
   refine x_ek ?_
   refine c_ret ?_
   refine r_ret (r_vals [.agg #[Vi p1_0_0, .slice a11 (((([] : List Int) ++ p1_0_1).set (Int.toNat x20.1) (if (IntKind.i64.wrap (x22 + x26.1)) > 0 then (IntKind.i64.wrap (x22 + x26.1)) else 0))).length c11, .slice a15 ((([] : List Int) ++ p1_1)).length c15]] ⟨⟨_, rfl, loadVar_of_reads (reads_boxagg (Mo := []) 0 [Vi p1_0_0, .slice a11 (((([] : List Int) ++ p1_0_1).set (Int.toNat x20.1) (if (IntKind.i64.wrap (x22 + x26.1)) > 0 then (IntKind.i64.wrap (x22 + x26.1)) else 0))).length c11, .slice a15 ((([] : List Int) ++ p1_1)).length c15] tagg29 hb7 nn rfl)⟩, trivial⟩ ?_)
   have hx := some_inj h
   subst hx
   have hmr : MS w31 [blk a11, blk a15, [b_p0], M] := hms.pick [some 0, some 1, some 4, some 5] _ rfl
   have hsu : ∀ x ∈ fl [blk a11, blk a15, [b_p0], M], x ∈ fl [blk a11, blk a15, [b5], [b7], [b_p0], M] := pick_sub [some 0, some 1, some 4, some 5] _ rfl
   have hfe : FR w.heap.size [blk a11, blk a15] := hfr.pick [some 0, some 1] _ rfl
   exact ⟨a11, c11, a15, c15, rfl, hev, hb_p0, hmr, hfe, ho9.sub hsu, ho13.sub hsu⟩
 refine c_join (σ := Bool) (fun s => match s with | t63__s63_j32 => [(0, Vp b_p0 0), (3, Vp b5 0), (4, Vp b7 0), (5, Vi x17.1), (63, .bool t63__s63_j32)]) (fun s w' => match s with | t63__s63_j32 => law15_spoil_J32 p0_0 p1_0_0 p1_0_1 p1_1 x17 t63__s63_j32 = some r ∧ Ev [b_p0] w w' ∧ MS w' [blk a11, blk a15, [b5], [b7], [b_p0], M] ∧ FR w.heap.size [blk a11, blk a15, [b5], [b7]] ∧ SlR (eInt .i64) w' (fl [blk a11, blk a15, [b5], [b7], [b_p0], M]) a_p0_0 c_p0_0 p0_0 ∧ w'.heap[b_p0]? = some (.cells #[.slice a_p0_0 (p0_0).length c_p0_0, Vi x17.2] 65 (0, 0)) ∧ OwnS (eInt .i64) 3 w' (fl [blk a11, blk a15, [b5], [b7], [b_p0], M]) a11 c11 (([] : List Int) ++ p1_0_1) ∧ OwnS (eInt .i64) 3 w' (fl [blk a11, blk a15, [b5], [b7], [b_p0], M]) a15 c15 (([] : List Int) ++ p1_1) ∧ w'.heap[b5]? = some (.cells #[Vi p1_0_0, .slice a11 ((([] : List Int) ++ p1_0_1)).length c11, .slice a15 ((([] : List Int) ++ p1_1)).length c15] 29 (0, 0)) ∧ w'.heap[b7]? = some (.cells #[Vi 0, .slice none 0 0, .slice none 0 0] 29 (0, 0))) ?_ ?_
 · refine c_plain ?_
   refine x_u 3 [(64, Vi x17.1), (65, .bool (decide (x17.1 < 4))), (66, .bool (decide (x17.1 < 4)))] ?_
   refine x_if 66 (decide (x17.1 < 4)) rfl h (fun h => ?_) (fun h => ?_)
   · refine x_fieldAddr (xv := Vp b5 0) (Vp b5 2) rfl rfl rfl (reads_field tfld29_1 _ _) ?_
     refine x_load (xv := Vp b5 2) (.slice a15 ((([] : List Int) ++ p1_1)).length c15) rfl rfl rfl (reads_box tcell22 hb5 nn 2 _ rfl) ?_
     refine x_len (vs := [.slice a15 ((([] : List Int) ++ p1_1)).length c15]) (Vi (((([] : List Int) ++ p1_1)).length : Int)) rfl rfl rfl (reads_len tsl22 _ _ _ _ _) ?_
     refine x_u 3 [(70, .bool (decide ((((([] : List Int) ++ p1_1)).length : Int) > 0))), (71, .bool (decide ((((([] : List Int) ++ p1_1)).length : Int) > 0))), (63, .bool (decide ((((([] : List Int) ++ p1_1)).length : Int) > 0)))] ?_
     refine x_end rfl ?_
     exact k_then ⟨decide ((((([] : List Int) ++ p1_1)).length : Int) > 0), ⟨rfl, rfl, rfl, rfl, rfl, trivial⟩, h, hev, hms, hfr, hs_p0_0, hb_p0, ho9, ho13, hb5, hb7⟩
   refine x_u 6 [(67, undef), (68, undef), (69, undef), (70, undef), (71, .bool false), (63, .bool false)] ?_
   refine x_end rfl ?_
   exact k_then ⟨false, ⟨rfl, rfl, rfl, rfl, rfl, trivial⟩, h, hev, hms, hfr, hs_p0_0, hb_p0, ho9, ho13, hb5, hb7⟩
 rintro t63__s63_j32 J wj32 ⟨h, hev, hms, hfr, hs_p0_0, hb_p0, ho9, ho13, hb5, hb7⟩
 refine c_if t63__s63_j32 rfl h (fun h => ?_) (fun h => ?_)
 · refine c_sp ?_
   refine x_u 1 [(72, Vp b_p0 0)] ?_
   refine x_fieldAddr (xv := Vp b5 0) (Vp b5 2) rfl rfl rfl (reads_field tfld29_1 _ _) ?_
   refine x_load (xv := Vp b5 2) (.slice a15 ((([] : List Int) ++ p1_1)).length c15) rfl rfl rfl (reads_box tcell22 hb5 nn 2 _ rfl) ?_
   refine x_len (vs := [.slice a15 ((([] : List Int) ++ p1_1)).length c15]) (Vi (((([] : List Int) ++ p1_1)).length : Int)) rfl rfl rfl (reads_len tsl22 _ _ _ _ _) ?_
   obtain ⟨x33, hx, h⟩ := bind_some h
   have hpk : MS wj32 ([[b_p0]] ++ [blk a11, blk a15, [b5], [b7], M]) := hms.pick [some 4, some 0, some 1, some 2, some 3, some 5] _ rfl
   have hsb0 : ∀ x ∈ fl ([[b_p0]] ++ [blk a11, blk a15, [b5], [b7], M]), x ∈ fl [blk a11, blk a15, [b5], [b7], [b_p0], M] := pick_sub [some 4, some 0, some 1, some 2, some 3, some 5] _ rfl
   have hsb : ∀ x ∈ fl ([[b_p0]] ++ [(fl [blk a11, blk a15, [b5], [b7], M])]), x ∈ fl [blk a11, blk a15, [b5], [b7], [b_p0], M] := fun x hx => hsb0 x (fl_unfold x hx)
   have hcall := gen_Maker_Next_w b_p0 a_p0_0 c_p0_0 p0_0 x17.2 (((([] : List Int) ++ p1_1)).length : Int) _ wj32 (fl [blk a11, blk a15, [b5], [b7], M]) (hpk.fold (P := [[b_p0]])) (hs_p0_0.sub hsb) hb_p0 hx
   refine x_call 37 #[] #[] [Vp b_p0 0, Vi (((([] : List Int) ++ p1_1)).length : Int)] _ rfl rfl rfl rfl hcall ?_
   rintro v w34 ⟨rfl, he34, hp34_0⟩
   clear hcall hx
   refine inl1 ?_
   have hpk2 : MS wj32 ([[b_p0]] ++ [blk a11, blk a15, [b5], [b7], M]) := hms.pick [some 4, some 0, some 1, some 2, some 3, some 5] _ rfl
   have hsb2 : ∀ x ∈ fl ([[b_p0]] ++ [blk a11, blk a15, [b5], [b7], M]), x ∈ fl [blk a11, blk a15, [b5], [b7], [b_p0], M] := pick_sub [some 4, some 0, some 1, some 2, some 3, some 5] _ rfl
   have hst0 := Stp.call (LS := [blk a11, blk a15, [b5], [b7], [b_p0], M]) (res := []) (par := [[b_p0]]) (R := [blk a11, blk a15, [b5], [b7], M]) he34 (fun b hb => hsb2 b (fl_left' (P := [[b_p0]]) b hb)) (FR.nil _) (NP.init _ _) (fun x hx => hsb2 x (fl_right' (P := [[b_p0]]) x hx))
   have hsn : ∀ x ∈ fl [blk a11, blk a15, [b5], [b7], [b_p0], M], x ∈ fl ([] ++ ([[b_p0]] ++ [blk a11, blk a15, [b5], [b7], M])) := pick_sub [some 1, some 2, some 3, some 4, some 0, some 5] _ rfl
   have hst := hst0.res hsn
   replace hs_p0_0 := hs_p0_0.step hst
   replace hb5 := he34.box hb5 ((MS.outs (P := [[b_p0]]) hpk2 2 rfl) _ mem1)
   replace ho9 := ho9.step hst he34 (MS.outs (P := [[b_p0]]) hpk2 0 rfl)
   replace ho13 := ho13.step hst he34 (MS.outs (P := [[b_p0]]) hpk2 1 rfl)
   replace hb7 := he34.box hb7 ((MS.outs (P := [[b_p0]]) hpk2 3 rfl) _ mem1)
   replace hms := hms.ev he34
   replace hev := hev.then he34 (fun b hb => .inl (by simpa using hb))
   replace hb_p0 := hp34_0
   clear hpk hsb hsb0 hpk2 hsb2 hst0 hsn hst
   refine x_u 1 [(7, Vi x33.1)] ?_
   refine x_ek ?_
   refine c_norm [(3, Vp b5 0), (4, Vp b7 0), (7, Vi x33.1)] ⟨rfl, rfl, rfl, trivial⟩ (fun J => ?_)
   refine c_drawn [] [(0, false), (1, false), (2, false), (3, false), (4, false), (5, false), (6, false), (7, false), (8, false), (9, true), (10, false), (11, true)] _ (by kernel_rfl) rfl ?_
   have hst := Stp.ext (ls := [blk a11, blk a15, [b5], [b7], [b_p0], M]) (Ev.drew w34)
   replace hb_p0 := (Ev.drew w34).box hb_p0 nn
   replace hs_p0_0 := hs_p0_0.step hst
   replace hb5 := (Ev.drew w34).box hb5 nn
   replace ho9 := ho9.step hst (Ev.drew w34) nn2
   replace ho13 := ho13.step hst (Ev.drew w34) nn2
   replace hb7 := (Ev.drew w34).box hb7 nn
   replace hms := hms.ev (Ev.drew w34)
   replace hev := hev.ext (Ev.drew w34)
   refine x_fieldAddr (xv := Vp b5 0) (Vp b5 2) rfl rfl rfl (reads_field tfld29_1 _ _) ?_
   refine x_load (xv := Vp b5 2) (.slice a15 ((([] : List Int) ++ p1_1)).length c15) rfl rfl rfl (reads_box tcell22 hb5 nn 2 _ rfl) ?_
   refine x_u 1 [(79, Vi x33.1)] ?_
   have hg := guard_l h
   replace h := guard_r h
   have hr35 := reads_trunc (P := Try.prog) (Mo := []) (w := (w34).drew) tsl22 a15 c15 (([] : List Int) ++ p1_1) x33.1 hg.1 hg.2 ho13.le
   refine x_slice (xv := .slice a15 ((([] : List Int) ++ p1_1)).length c15) (lv := none) (hv := some (Vi x33.1)) (mv := none) (.slice a15 (((([] : List Int) ++ p1_1).take (Int.toNat x33.1))).length c15) rfl rfl rfl rfl rfl rfl hr35 ?_
   refine x_fieldAddr (xv := Vp b5 0) (Vp b5 2) rfl rfl rfl (reads_field tfld29_1 _ _) ?_
   refine x_load (xv := Vp b5 2) (.slice a15 ((([] : List Int) ++ p1_1)).length c15) rfl rfl rfl (reads_box tcell22 hb5 nn 2 _ rfl) ?_
   refine x_u 2 [(83, Vi x33.1), (84, Vi (IntKind.i64.wrap (x33.1 + 1)))] ?_
   have hg := guard_l h
   replace h := guard_r h
   obtain ⟨a36, c36, hr36, hs36⟩ := SlR.sliced (P := Try.prog) (Mo := []) tsl22 (OwnS.ro (M' := []) ho13 (fun _ hb => by cases hb) (fun _ _ hb => by cases hb)) (some (IntKind.i64.wrap (x33.1 + 1))) none hg
   replace hs36 : SlR (eInt .i64) (w34).drew [] a36 c36 (((([] : List Int) ++ p1_1).drop (Int.toNat (IntKind.i64.wrap (x33.1 + 1)))).take (Int.toNat ((([] : List Int) ++ p1_1).length : Int) - Int.toNat (IntKind.i64.wrap (x33.1 + 1)))) := hs36
   refine x_slice (xv := .slice a15 ((([] : List Int) ++ p1_1)).length c15) (lv := some (Vi (IntKind.i64.wrap (x33.1 + 1)))) (hv := none) (mv := none) (.slice a36 ((((([] : List Int) ++ p1_1).drop (Int.toNat (IntKind.i64.wrap (x33.1 + 1)))).take (Int.toNat ((([] : List Int) ++ p1_1).length : Int) - Int.toNat (IntKind.i64.wrap (x33.1 + 1))))).length c36) rfl rfl rfl rfl rfl rfl hr36 ?_
   have hg := guard_l h
   replace h := guard_r h
   obtain ⟨a37, c37, w37, hr37, he37, hn37, hm37, hw37⟩ := own_appendG (M := (blk a15)) (M2 := []) tel22 22 (OwnS.plain (plain_int _) (ho13.trunc (Int.toNat x33.1))) (fun _ h => h) hs36 (fun cs y hh => (plain_int _) _ _ _ _ _ _ hh) hg
   refine x_builtin (vs := [.slice a15 (((([] : List Int) ++ p1_1).take (Int.toNat x33.1))).length c15, .slice a36 ((((([] : List Int) ++ p1_1).drop (Int.toNat (IntKind.i64.wrap (x33.1 + 1)))).take (Int.toNat ((([] : List Int) ++ p1_1).length : Int) - Int.toNat (IntKind.i64.wrap (x33.1 + 1))))).length c36]) _ w37 rfl rfl rfl rfl (run_value _ _ _ _ hr37) ?_
   refine inl1 ?_
   have hst : Stp (fl [blk a11, blk a15, [b5], [b7], [b_p0], M]) (w34).drew (fl [blk a11, blk a37, [b5], [b7], [b_p0], M]) w37 := Stp.upd 1 he37 rfl (fun b hb => (hn37 b hb).1)
   replace hb_p0 := he37.box hb_p0 (hms.apart 4 1 rfl rfl rfl _ mem1)
   replace hs_p0_0 := hs_p0_0.step hst
   replace hb5 := he37.box hb5 (hms.apart 2 1 rfl rfl rfl _ mem1)
   replace ho9 := ho9.step hst he37 (hms.apart 0 1 rfl rfl rfl)
   replace hb7 := he37.box hb7 (hms.apart 3 1 rfl rfl rfl _ mem1)
   replace hms : MS w37 [blk a11, blk a37, [b5], [b7], [b_p0], M] := hms.upd 1 he37 rfl hn37
   have hfr2 : FR w.heap.size [blk a11, blk a37, [b5], [b7]] := hfr.upd 1 rfl hev.size (fun b hb => (hn37 b hb).1)
   replace hev := hev.then he37 (fun b hb => .inr (hfr.at 1 rfl b hb))
   replace hfr := hfr2
   clear hfr2
   replace ho13 := OwnS.plain (M' := fl [blk a11, blk a37, [b5], [b7], [b_p0], M]) (plain_int _) (hw37 [] (fun _ h => by cases h))
   clear hw37
   refine x_fieldAddr (xv := Vp b5 0) (Vp b5 2) rfl rfl rfl (reads_field tfld29_1 _ _) ?_
   obtain ⟨w38, hr38, hb38, he38⟩ := store_box 2 (.slice a37 ((((([] : List Int) ++ p1_1).take (Int.toNat x33.1)) ++ (((([] : List Int) ++ p1_1).drop (Int.toNat (IntKind.i64.wrap (x33.1 + 1)))).take (Int.toNat ((([] : List Int) ++ p1_1).length : Int) - Int.toNat (IntKind.i64.wrap (x33.1 + 1)))))).length c37) #[Vi p1_0_0, .slice a11 ((([] : List Int) ++ p1_0_1)).length c11, .slice a37 ((((([] : List Int) ++ p1_1).take (Int.toNat x33.1)) ++ (((([] : List Int) ++ p1_1).drop (Int.toNat (IntKind.i64.wrap (x33.1 + 1)))).take (Int.toNat ((([] : List Int) ++ p1_1).length : Int) - Int.toNat (IntKind.i64.wrap (x33.1 + 1)))))).length c37] tcell22 hb5 rfl rfl rfl
   refine x_store w38 (xv := Vp b5 2) (yv := .slice a37 ((((([] : List Int) ++ p1_1).take (Int.toNat x33.1)) ++ (((([] : List Int) ++ p1_1).drop (Int.toNat (IntKind.i64.wrap (x33.1 + 1)))).take (Int.toNat ((([] : List Int) ++ p1_1).length : Int) - Int.toNat (IntKind.i64.wrap (x33.1 + 1)))))).length c37) rfl rfl rfl rfl hr38 ?_
   refine inl1 ?_
   have hst := Stp.ev' (ls := [blk a11, blk a37, [b5], [b7], [b_p0], M]) he38 (mem_flat 2 rfl)
   replace hb_p0 := he38.box hb_p0 (hms.apart 4 2 rfl rfl rfl _ mem1)
   replace hs_p0_0 := hs_p0_0.step hst
   replace ho9 := ho9.step hst he38 (hms.apart 0 2 rfl rfl rfl)
   replace ho13 := ho13.step hst he38 (hms.apart 1 2 rfl rfl rfl)
   replace hb7 := he38.box hb7 (hms.apart 3 2 rfl rfl rfl _ mem1)
   replace hms := hms.ev he38
   replace hev := hev.then he38 (fun b hb => .inr (hfr.at 2 rfl b hb))
   replace hb5 := hb38
   refine x_end rfl ?_
   refine k_block ?_
   refine k_then ?_
   refine c_sp ?_
   refine x_load (xv := Vp b5 0) (.agg #[Vi p1_0_0, .slice a11 ((([] : List Int) ++ p1_0_1)).length c11, .slice a37 ((((([] : List Int) ++ p1_1).take (Int.toNat x33.1)) ++ (((([] : List Int) ++ p1_1).drop (Int.toNat (IntKind.i64.wrap (x33.1 + 1)))).take (Int.toNat ((([] : List Int) ++ p1_1).length : Int) - Int.toNat (IntKind.i64.wrap (x33.1 + 1)))))).length c37]) rfl rfl rfl (reads_boxagg 0 [Vi p1_0_0, .slice a11 ((([] : List Int) ++ p1_0_1)).length c11, .slice a37 ((((([] : List Int) ++ p1_1).take (Int.toNat x33.1)) ++ (((([] : List Int) ++ p1_1).drop (Int.toNat (IntKind.i64.wrap (x33.1 + 1)))).take (Int.toNat ((([] : List Int) ++ p1_1).length : Int) - Int.toNat (IntKind.i64.wrap (x33.1 + 1)))))).length c37] tagg29 hb5 nn rfl) ?_
   obtain ⟨w39, hr39, hb39, he39⟩ := store_boxagg 0 [Vi p1_0_0, .slice a11 ((([] : List Int) ++ p1_0_1)).length c11, .slice a37 ((((([] : List Int) ++ p1_1).take (Int.toNat x33.1)) ++ (((([] : List Int) ++ p1_1).drop (Int.toNat (IntKind.i64.wrap (x33.1 + 1)))).take (Int.toNat ((([] : List Int) ++ p1_1).length : Int) - Int.toNat (IntKind.i64.wrap (x33.1 + 1)))))).length c37] #[Vi p1_0_0, .slice a11 ((([] : List Int) ++ p1_0_1)).length c11, .slice a37 ((((([] : List Int) ++ p1_1).take (Int.toNat x33.1)) ++ (((([] : List Int) ++ p1_1).drop (Int.toNat (IntKind.i64.wrap (x33.1 + 1)))).take (Int.toNat ((([] : List Int) ++ p1_1).length : Int) - Int.toNat (IntKind.i64.wrap (x33.1 + 1)))))).length c37] tagg29 hb7 rfl rfl rfl
   refine x_store w39 (xv := Vp b7 0) (yv := .agg #[Vi p1_0_0, .slice a11 ((([] : List Int) ++ p1_0_1)).length c11, .slice a37 ((((([] : List Int) ++ p1_1).take (Int.toNat x33.1)) ++ (((([] : List Int) ++ p1_1).drop (Int.toNat (IntKind.i64.wrap (x33.1 + 1)))).take (Int.toNat ((([] : List Int) ++ p1_1).length : Int) - Int.toNat (IntKind.i64.wrap (x33.1 + 1)))))).length c37]) rfl rfl rfl rfl hr39 ?_
   refine inl1 ?_
   have hst := Stp.ev' (ls := [blk a11, blk a37, [b5], [b7], [b_p0], M]) he39 (mem_flat 3 rfl)
   replace hb_p0 := he39.box hb_p0 (hms.apart 4 3 rfl rfl rfl _ mem1)
   replace hs_p0_0 := hs_p0_0.step hst
   replace hb5 := he39.box hb5 (hms.apart 2 3 rfl rfl rfl _ mem1)
   replace ho9 := ho9.step hst he39 (hms.apart 0 3 rfl rfl rfl)
   replace ho13 := ho13.step hst he39 (hms.apart 1 3 rfl rfl rfl)
   replace hms := hms.ev he39
   replace hev := hev.then he39 (fun b hb => .inr (hfr.at 3 rfl b hb))
   replace hb7 := hb39
   refine x_ek ?_
   refine c_ret ?_
   refine r_ret (r_vals [.agg #[Vi p1_0_0, .slice a11 ((([] : List Int) ++ p1_0_1)).length c11, .slice a37 ((((([] : List Int) ++ p1_1).take (Int.toNat x33.1)) ++ (((([] : List Int) ++ p1_1).drop (Int.toNat (IntKind.i64.wrap (x33.1 + 1)))).take (Int.toNat ((([] : List Int) ++ p1_1).length : Int) - Int.toNat (IntKind.i64.wrap (x33.1 + 1)))))).length c37]] ⟨⟨_, rfl, loadVar_of_reads (reads_boxagg (Mo := []) 0 [Vi p1_0_0, .slice a11 ((([] : List Int) ++ p1_0_1)).length c11, .slice a37 ((((([] : List Int) ++ p1_1).take (Int.toNat x33.1)) ++ (((([] : List Int) ++ p1_1).drop (Int.toNat (IntKind.i64.wrap (x33.1 + 1)))).take (Int.toNat ((([] : List Int) ++ p1_1).length : Int) - Int.toNat (IntKind.i64.wrap (x33.1 + 1)))))).length c37] tagg29 hb7 nn rfl)⟩, trivial⟩ ?_)
   have hx := some_inj h
   subst hx
   have hmr : MS w39 [blk a11, blk a37, [b_p0], M] := hms.pick [some 0, some 1, some 4, some 5] _ rfl
   have hsu : ∀ x ∈ fl [blk a11, blk a37, [b_p0], M], x ∈ fl [blk a11, blk a37, [b5], [b7], [b_p0], M] := pick_sub [some 0, some 1, some 4, some 5] _ rfl
   have hfe : FR w.heap.size [blk a11, blk a37] := hfr.pick [some 0, some 1] _ rfl
   exact ⟨a11, c11, a37, c37, rfl, hev, hb_p0, hmr, hfe, ho9.sub hsu, ho13.sub hsu⟩
 refine c_join (σ := Bool) (fun s => match s with | t88__s88_j40 => [(0, Vp b_p0 0), (3, Vp b5 0), (4, Vp b7 0), (88, .bool t88__s88_j40)]) (fun s w' => match s with | t88__s88_j40 => law15_spoil_J40 p0_0 p1_0_0 p1_0_1 p1_1 x17 t88__s88_j40 = some r ∧ Ev [b_p0] w w' ∧ MS w' [blk a11, blk a15, [b5], [b7], [b_p0], M] ∧ FR w.heap.size [blk a11, blk a15, [b5], [b7]] ∧ SlR (eInt .i64) w' (fl [blk a11, blk a15, [b5], [b7], [b_p0], M]) a_p0_0 c_p0_0 p0_0 ∧ w'.heap[b_p0]? = some (.cells #[.slice a_p0_0 (p0_0).length c_p0_0, Vi x17.2] 65 (0, 0)) ∧ OwnS (eInt .i64) 3 w' (fl [blk a11, blk a15, [b5], [b7], [b_p0], M]) a11 c11 (([] : List Int) ++ p1_0_1) ∧ OwnS (eInt .i64) 3 w' (fl [blk a11, blk a15, [b5], [b7], [b_p0], M]) a15 c15 (([] : List Int) ++ p1_1) ∧ w'.heap[b5]? = some (.cells #[Vi p1_0_0, .slice a11 ((([] : List Int) ++ p1_0_1)).length c11, .slice a15 ((([] : List Int) ++ p1_1)).length c15] 29 (0, 0)) ∧ w'.heap[b7]? = some (.cells #[Vi 0, .slice none 0 0, .slice none 0 0] 29 (0, 0))) ?_ ?_
 · refine c_plain ?_
   refine x_u 3 [(89, Vi x17.1), (90, .bool (x17.1 == 4)), (91, .bool (x17.1 == 4))] ?_
   refine x_if 91 (x17.1 == 4) rfl h (fun h => ?_) (fun h => ?_)
   · refine x_fieldAddr (xv := Vp b5 0) (Vp b5 2) rfl rfl rfl (reads_field tfld29_1 _ _) ?_
     refine x_load (xv := Vp b5 2) (.slice a15 ((([] : List Int) ++ p1_1)).length c15) rfl rfl rfl (reads_box tcell22 hb5 nn 2 _ rfl) ?_
     refine x_len (vs := [.slice a15 ((([] : List Int) ++ p1_1)).length c15]) (Vi (((([] : List Int) ++ p1_1)).length : Int)) rfl rfl rfl (reads_len tsl22 _ _ _ _ _) ?_
     refine x_u 3 [(95, .bool (decide ((((([] : List Int) ++ p1_1)).length : Int) > 0))), (96, .bool (decide ((((([] : List Int) ++ p1_1)).length : Int) > 0))), (88, .bool (decide ((((([] : List Int) ++ p1_1)).length : Int) > 0)))] ?_
     refine x_end rfl ?_
     exact k_then ⟨decide ((((([] : List Int) ++ p1_1)).length : Int) > 0), ⟨rfl, rfl, rfl, rfl, trivial⟩, h, hev, hms, hfr, hs_p0_0, hb_p0, ho9, ho13, hb5, hb7⟩
   refine x_u 6 [(92, undef), (93, undef), (94, undef), (95, undef), (96, .bool false), (88, .bool false)] ?_
   refine x_end rfl ?_
   exact k_then ⟨false, ⟨rfl, rfl, rfl, rfl, trivial⟩, h, hev, hms, hfr, hs_p0_0, hb_p0, ho9, ho13, hb5, hb7⟩
 rintro t88__s88_j40 J wj40 ⟨h, hev, hms, hfr, hs_p0_0, hb_p0, ho9, ho13, hb5, hb7⟩
 refine c_if t88__s88_j40 rfl h (fun h => ?_) (fun h => ?_)
 · refine c_drawn [b_p0] [(0, false), (1, false), (2, true), (3, true), (4, true), (5, true), (7, false), (6, false), (8, false), (9, true), (10, true)] _ (by kernel_rfl) rfl ?_
   have hst := Stp.ext (ls := [blk a11, blk a15, [b5], [b7], [b_p0], M]) (Ev.drew wj40)
   replace hb_p0 := (Ev.drew wj40).box hb_p0 nn
   replace hs_p0_0 := hs_p0_0.step hst
   replace hb5 := (Ev.drew wj40).box hb5 nn
   replace ho9 := ho9.step hst (Ev.drew wj40) nn2
   replace ho13 := ho13.step hst (Ev.drew wj40) nn2
   replace hb7 := (Ev.drew wj40).box hb7 nn
   replace hms := hms.ev (Ev.drew wj40)
   replace hev := hev.ext (Ev.drew wj40)
   refine x_fieldAddr (xv := Vp b5 0) (Vp b5 2) rfl rfl rfl (reads_field tfld29_1 _ _) ?_
   refine x_load (xv := Vp b5 2) (.slice a15 ((([] : List Int) ++ p1_1)).length c15) rfl rfl rfl (reads_box tcell22 hb5 ((hms.apart 2 4 rfl rfl rfl) _ mem1) 2 _ rfl) ?_
   refine x_u 1 [(99, Vp b_p0 0)] ?_
   refine x_fieldAddr (xv := Vp b5 0) (Vp b5 2) rfl rfl rfl (reads_field tfld29_1 _ _) ?_
   refine x_load (xv := Vp b5 2) (.slice a15 ((([] : List Int) ++ p1_1)).length c15) rfl rfl rfl (reads_box tcell22 hb5 nn 2 _ rfl) ?_
   refine x_len (vs := [.slice a15 ((([] : List Int) ++ p1_1)).length c15]) (Vi (((([] : List Int) ++ p1_1)).length : Int)) rfl rfl rfl (reads_len tsl22 _ _ _ _ _) ?_
   refine x_u 1 [(104, Vp b_p0 0)] ?_
   obtain ⟨x41, hx, h⟩ := bind_some h
   have hpk : MS (wj40).drew ([[b_p0]] ++ [blk a11, blk a15, [b5], [b7], M]) := hms.pick [some 4, some 0, some 1, some 2, some 3, some 5] _ rfl
   have hsb0 : ∀ x ∈ fl ([[b_p0]] ++ [blk a11, blk a15, [b5], [b7], M]), x ∈ fl [blk a11, blk a15, [b5], [b7], [b_p0], M] := pick_sub [some 4, some 0, some 1, some 2, some 3, some 5] _ rfl
   have hsb : ∀ x ∈ fl ([[b_p0]] ++ [(fl [blk a11, blk a15, [b5], [b7], M])]), x ∈ fl [blk a11, blk a15, [b5], [b7], [b_p0], M] := fun x hx => hsb0 x (fl_unfold x hx)
   have hcall := gen_Maker_Next_w b_p0 a_p0_0 c_p0_0 p0_0 x17.2 (((([] : List Int) ++ p1_1)).length : Int) _ (wj40).drew (fl [blk a11, blk a15, [b5], [b7], M]) (hpk.fold (P := [[b_p0]])) (hs_p0_0.sub hsb) hb_p0 hx
   refine x_call 37 #[] #[] [Vp b_p0 0, Vi (((([] : List Int) ++ p1_1)).length : Int)] _ rfl rfl rfl rfl hcall ?_
   rintro v w42 ⟨rfl, he42, hp42_0⟩
   clear hcall hx
   refine ⟨.inr he42, ?_⟩
   have hpk2 : MS (wj40).drew ([[b_p0]] ++ [blk a11, blk a15, [b5], [b7], M]) := hms.pick [some 4, some 0, some 1, some 2, some 3, some 5] _ rfl
   have hsb2 : ∀ x ∈ fl ([[b_p0]] ++ [blk a11, blk a15, [b5], [b7], M]), x ∈ fl [blk a11, blk a15, [b5], [b7], [b_p0], M] := pick_sub [some 4, some 0, some 1, some 2, some 3, some 5] _ rfl
   have hst0 := Stp.call (LS := [blk a11, blk a15, [b5], [b7], [b_p0], M]) (res := []) (par := [[b_p0]]) (R := [blk a11, blk a15, [b5], [b7], M]) he42 (fun b hb => hsb2 b (fl_left' (P := [[b_p0]]) b hb)) (FR.nil _) (NP.init _ _) (fun x hx => hsb2 x (fl_right' (P := [[b_p0]]) x hx))
   have hsn : ∀ x ∈ fl [blk a11, blk a15, [b5], [b7], [b_p0], M], x ∈ fl ([] ++ ([[b_p0]] ++ [blk a11, blk a15, [b5], [b7], M])) := pick_sub [some 1, some 2, some 3, some 4, some 0, some 5] _ rfl
   have hst := hst0.res hsn
   replace hs_p0_0 := hs_p0_0.step hst
   replace hb5 := he42.box hb5 ((MS.outs (P := [[b_p0]]) hpk2 2 rfl) _ mem1)
   replace ho9 := ho9.step hst he42 (MS.outs (P := [[b_p0]]) hpk2 0 rfl)
   replace ho13 := ho13.step hst he42 (MS.outs (P := [[b_p0]]) hpk2 1 rfl)
   replace hb7 := he42.box hb7 ((MS.outs (P := [[b_p0]]) hpk2 3 rfl) _ mem1)
   replace hms := hms.ev he42
   replace hev := hev.then he42 (fun b hb => .inl (by simpa using hb))
   replace hb_p0 := hp42_0
   clear hpk hsb hsb0 hpk2 hsb2 hst0 hsn hst
   obtain ⟨x43, hx, h⟩ := bind_some h
   have hpk : MS w42 ([[b_p0]] ++ [blk a11, blk a15, [b5], [b7], M]) := hms.pick [some 4, some 0, some 1, some 2, some 3, some 5] _ rfl
   have hsb0 : ∀ x ∈ fl ([[b_p0]] ++ [blk a11, blk a15, [b5], [b7], M]), x ∈ fl [blk a11, blk a15, [b5], [b7], [b_p0], M] := pick_sub [some 4, some 0, some 1, some 2, some 3, some 5] _ rfl
   have hsb : ∀ x ∈ fl ([[b_p0]] ++ [(fl [blk a11, blk a15, [b5], [b7], M])]), x ∈ fl [blk a11, blk a15, [b5], [b7], [b_p0], M] := fun x hx => hsb0 x (fl_unfold x hx)
   have hcall := gen_Maker_Next_w b_p0 a_p0_0 c_p0_0 p0_0 x41.2 8 _ w42 (fl [blk a11, blk a15, [b5], [b7], M]) (hpk.fold (P := [[b_p0]])) (hs_p0_0.sub hsb) hb_p0 hx
   refine x_call 37 #[] #[] [Vp b_p0 0, Vi 8] _ rfl rfl rfl rfl hcall ?_
   rintro v w44 ⟨rfl, he44, hp44_0⟩
   clear hcall hx
   refine ⟨.inr he44, ?_⟩
   have hpk2 : MS w42 ([[b_p0]] ++ [blk a11, blk a15, [b5], [b7], M]) := hms.pick [some 4, some 0, some 1, some 2, some 3, some 5] _ rfl
   have hsb2 : ∀ x ∈ fl ([[b_p0]] ++ [blk a11, blk a15, [b5], [b7], M]), x ∈ fl [blk a11, blk a15, [b5], [b7], [b_p0], M] := pick_sub [some 4, some 0, some 1, some 2, some 3, some 5] _ rfl
   have hst0 := Stp.call (LS := [blk a11, blk a15, [b5], [b7], [b_p0], M]) (res := []) (par := [[b_p0]]) (R := [blk a11, blk a15, [b5], [b7], M]) he44 (fun b hb => hsb2 b (fl_left' (P := [[b_p0]]) b hb)) (FR.nil _) (NP.init _ _) (fun x hx => hsb2 x (fl_right' (P := [[b_p0]]) x hx))
   have hsn : ∀ x ∈ fl [blk a11, blk a15, [b5], [b7], [b_p0], M], x ∈ fl ([] ++ ([[b_p0]] ++ [blk a11, blk a15, [b5], [b7], M])) := pick_sub [some 1, some 2, some 3, some 4, some 0, some 5] _ rfl
   have hst := hst0.res hsn
   replace hs_p0_0 := hs_p0_0.step hst
   replace hb5 := he44.box hb5 ((MS.outs (P := [[b_p0]]) hpk2 2 rfl) _ mem1)
   replace ho9 := ho9.step hst he44 (MS.outs (P := [[b_p0]]) hpk2 0 rfl)
   replace ho13 := ho13.step hst he44 (MS.outs (P := [[b_p0]]) hpk2 1 rfl)
   replace hb7 := he44.box hb7 ((MS.outs (P := [[b_p0]]) hpk2 3 rfl) _ mem1)
   replace hms := hms.ev he44
   replace hev := hev.then he44 (fun b hb => .inl (by simpa using hb))
   replace hb_p0 := hp44_0
   clear hpk hsb hsb0 hpk2 hsb2 hst0 hsn hst
   obtain ⟨x45, hx45, h⟩ := bind_some h
   obtain ⟨g45, cs45, ha45, hr45, hc45, hR⟩ := own_index (Mo := []) tsl22 ho13 hx45
   obtain rfl := hR
   refine x_indexAddr (xv := .slice a15 ((([] : List Int) ++ p1_1)).length c15) (yv := Vi x41.1) (.pointer (some ⟨g45, (Int.toNat x41.1) * (eInt .i64).n, none⟩)) rfl rfl rfl rfl hr45 ?_
   obtain ⟨w47, hr47, he47, ho47⟩ := own_storeE ha45 (y := x43.1) 0 (Vi x43.1) tcell3 ho13 (mem_flat 1 rfl) hx45 rfl rfl (fun _ _ _ hR => set_int hR)
   refine x_store w47 (xv := .pointer (some ⟨g45, (Int.toNat x41.1) * (eInt .i64).n, none⟩)) (yv := Vi x43.1) rfl rfl rfl rfl hr47 ?_
   refine inl1 ?_
   have hst := Stp.ev' (ls := [blk a11, blk a15, [b5], [b7], [b_p0], M]) he47 (mem_flat 1 rfl)
   replace hb_p0 := he47.box hb_p0 (hms.apart 4 1 rfl rfl rfl _ mem1)
   replace hs_p0_0 := hs_p0_0.step hst
   replace hb5 := he47.box hb5 (hms.apart 2 1 rfl rfl rfl _ mem1)
   replace ho9 := ho9.step hst he47 (hms.apart 0 1 rfl rfl rfl)
   replace hb7 := he47.box hb7 (hms.apart 3 1 rfl rfl rfl _ mem1)
   replace hms := hms.ev he47
   replace hev := hev.then he47 (fun b hb => .inr (hfr.at 1 rfl b hb))
   replace ho13 := ho47
   have hsl : (Value.slice a15 ((([] : List Int) ++ p1_1)).length c15) = (Value.slice a15 (((([] : List Int) ++ p1_1).set (Int.toNat x41.1) x43.1)).length c15) := by first | (rw [List.length_set]; done) | simp only [List.length_set]
   rw [hsl] at hb5
   try rw [hsl]
   clear hsl
   refine x_end rfl ?_
   refine k_block ?_
   refine k_then ?_
   refine c_norm [(3, Vp b5 0), (4, Vp b7 0)] ⟨rfl, rfl, trivial⟩ (fun J => ?_)
   refine c_sp ?_
   refine x_load (xv := Vp b5 0) (.agg #[Vi p1_0_0, .slice a11 ((([] : List Int) ++ p1_0_1)).length c11, .slice a15 (((([] : List Int) ++ p1_1).set (Int.toNat x41.1) x43.1)).length c15]) rfl rfl rfl (reads_boxagg 0 [Vi p1_0_0, .slice a11 ((([] : List Int) ++ p1_0_1)).length c11, .slice a15 (((([] : List Int) ++ p1_1).set (Int.toNat x41.1) x43.1)).length c15] tagg29 hb5 nn rfl) ?_
   obtain ⟨w48, hr48, hb48, he48⟩ := store_boxagg 0 [Vi p1_0_0, .slice a11 ((([] : List Int) ++ p1_0_1)).length c11, .slice a15 (((([] : List Int) ++ p1_1).set (Int.toNat x41.1) x43.1)).length c15] #[Vi p1_0_0, .slice a11 ((([] : List Int) ++ p1_0_1)).length c11, .slice a15 (((([] : List Int) ++ p1_1).set (Int.toNat x41.1) x43.1)).length c15] tagg29 hb7 rfl rfl rfl
   refine x_store w48 (xv := Vp b7 0) (yv := .agg #[Vi p1_0_0, .slice a11 ((([] : List Int) ++ p1_0_1)).length c11, .slice a15 (((([] : List Int) ++ p1_1).set (Int.toNat x41.1) x43.1)).length c15]) rfl rfl rfl rfl hr48 ?_
   refine inl1 ?_
   have hst := Stp.ev' (ls := [blk a11, blk a15, [b5], [b7], [b_p0], M]) he48 (mem_flat 3 rfl)
   replace hb_p0 := he48.box hb_p0 (hms.apart 4 3 rfl rfl rfl _ mem1)
   replace hs_p0_0 := hs_p0_0.step hst
   replace hb5 := he48.box hb5 (hms.apart 2 3 rfl rfl rfl _ mem1)
   replace ho9 := ho9.step hst he48 (hms.apart 0 3 rfl rfl rfl)
   replace ho13 := ho13.step hst he48 (hms.apart 1 3 rfl rfl rfl)
   replace hms := hms.ev he48
   replace hev := hev.then he48 (fun b hb => .inr (hfr.at 3 rfl b hb))
   replace hb7 := hb48
   refine x_ek ?_
   refine c_ret ?_
   refine r_ret (r_vals [.agg #[Vi p1_0_0, .slice a11 ((([] : List Int) ++ p1_0_1)).length c11, .slice a15 (((([] : List Int) ++ p1_1).set (Int.toNat x41.1) x43.1)).length c15]] ⟨⟨_, rfl, loadVar_of_reads (reads_boxagg (Mo := []) 0 [Vi p1_0_0, .slice a11 ((([] : List Int) ++ p1_0_1)).length c11, .slice a15 (((([] : List Int) ++ p1_1).set (Int.toNat x41.1) x43.1)).length c15] tagg29 hb7 nn rfl)⟩, trivial⟩ ?_)
   have hx := some_inj h
   subst hx
   have hmr : MS w48 [blk a11, blk a15, [b_p0], M] := hms.pick [some 0, some 1, some 4, some 5] _ rfl
   have hsu : ∀ x ∈ fl [blk a11, blk a15, [b_p0], M], x ∈ fl [blk a11, blk a15, [b5], [b7], [b_p0], M] := pick_sub [some 0, some 1, some 4, some 5] _ rfl
   have hfe : FR w.heap.size [blk a11, blk a15] := hfr.pick [some 0, some 1] _ rfl
   exact ⟨a11, c11, a15, c15, rfl, hev, hb_p0, hmr, hfe, ho9.sub hsu, ho13.sub hsu⟩
 refine c_drawn [b_p0] [(0, false), (1, false), (2, false), (3, false), (4, false), (5, false), (6, true), (7, true), (8, true), (9, true)] _ (by kernel_rfl) rfl ?_
 have hst := Stp.ext (ls := [blk a11, blk a15, [b5], [b7], [b_p0], M]) (Ev.drew wj40)
 replace hb_p0 := (Ev.drew wj40).box hb_p0 nn
 replace hs_p0_0 := hs_p0_0.step hst
 replace hb5 := (Ev.drew wj40).box hb5 nn
 replace ho9 := ho9.step hst (Ev.drew wj40) nn2
 replace ho13 := ho13.step hst (Ev.drew wj40) nn2
 replace hb7 := (Ev.drew wj40).box hb7 nn
 replace hms := hms.ev (Ev.drew wj40)
 replace hev := hev.ext (Ev.drew wj40)
 refine x_fieldAddr (xv := Vp b5 0) (Vp b5 0) rfl rfl rfl (reads_field tfld29_0 _ _) ?_
 refine x_fieldAddr (xv := Vp b5 0) (Vp b5 0) rfl rfl rfl (reads_field tfld27_0 _ _) ?_
 refine x_load (xv := Vp b5 0) (Vi p1_0_0) rfl rfl rfl (reads_box tcell3 hb5 ((hms.apart 2 4 rfl rfl rfl) _ mem1) 0 _ rfl) ?_
 refine x_u 1 [(25, Vp b_p0 0)] ?_
 refine x_buildSlice (vs := [(0, Vi (-1)), (1, Vi 1)]) #[Vi (-1), Vi 1] 3 rfl rfl rfl (by kernel_rfl) (fun b49 w49 hq49 hb49 he49 hz49 => ?_)
 refine ⟨.inr (he49.nil), ?_⟩
 have hms0 := hms
 have hst := Stp.ext (ls := [blk a11, blk a15, [b5], [b7], [b_p0], M]) he49
 replace hb_p0 := he49.box hb_p0 nn
 replace hs_p0_0 := hs_p0_0.step hst
 replace hb5 := he49.box hb5 nn
 replace ho9 := ho9.step hst he49 nn2
 replace ho13 := ho13.step hst he49 nn2
 replace hb7 := he49.box hb7 nn
 replace hms := hms.ev he49
 replace hev := hev.ext he49
 have hs49 : SlR (eInt .i64) w49 (fl [blk a11, blk a15, [b5], [b7], [b_p0], M]) (Ad b49 0) 2 ([(-1), 1]) := ro_of_box hms0 hq49 hb49 rfl rfl (cells_at (cs := [Vi (-1), Vi 1]) (CellsOf.cons (c := [Vi (-1)]) rfl (CellsOf.cons (c := [Vi 1]) rfl CellsOf.nil)))
 clear hb49 hms0
 obtain ⟨x51, hx, h⟩ := bind_some h
 have hpk : MS w49 ([[b_p0]] ++ [blk a11, blk a15, [b5], [b7], M]) := hms.pick [some 4, some 0, some 1, some 2, some 3, some 5] _ rfl
 have hsb0 : ∀ x ∈ fl ([[b_p0]] ++ [blk a11, blk a15, [b5], [b7], M]), x ∈ fl [blk a11, blk a15, [b5], [b7], [b_p0], M] := pick_sub [some 4, some 0, some 1, some 2, some 3, some 5] _ rfl
 have hsb : ∀ x ∈ fl ([[b_p0]] ++ [(fl [blk a11, blk a15, [b5], [b7], M])]), x ∈ fl [blk a11, blk a15, [b5], [b7], [b_p0], M] := fun x hx => hsb0 x (fl_unfold x hx)
 have hcall := gen_Maker_Pick_w b_p0 a_p0_0 c_p0_0 p0_0 x17.2 (Ad b49 0) 2 ([(-1), 1]) _ w49 (fl [blk a11, blk a15, [b5], [b7], M]) (hpk.fold (P := [[b_p0]])) (hs_p0_0.sub hsb) hb_p0 (hs49.sub hsb) hx
 refine x_call 31 #[] #[] [Vp b_p0 0, .slice (Ad b49 0) ([(-1), 1]).length 2] _ rfl rfl rfl rfl hcall ?_
 rintro v w52 ⟨rfl, he52, hp52_0⟩
 clear hcall hx
 refine ⟨.inr he52, ?_⟩
 have hpk2 : MS w49 ([[b_p0]] ++ [blk a11, blk a15, [b5], [b7], M]) := hms.pick [some 4, some 0, some 1, some 2, some 3, some 5] _ rfl
 have hsb2 : ∀ x ∈ fl ([[b_p0]] ++ [blk a11, blk a15, [b5], [b7], M]), x ∈ fl [blk a11, blk a15, [b5], [b7], [b_p0], M] := pick_sub [some 4, some 0, some 1, some 2, some 3, some 5] _ rfl
 have hst0 := Stp.call (LS := [blk a11, blk a15, [b5], [b7], [b_p0], M]) (res := []) (par := [[b_p0]]) (R := [blk a11, blk a15, [b5], [b7], M]) he52 (fun b hb => hsb2 b (fl_left' (P := [[b_p0]]) b hb)) (FR.nil _) (NP.init _ _) (fun x hx => hsb2 x (fl_right' (P := [[b_p0]]) x hx))
 have hsn : ∀ x ∈ fl [blk a11, blk a15, [b5], [b7], [b_p0], M], x ∈ fl ([] ++ ([[b_p0]] ++ [blk a11, blk a15, [b5], [b7], M])) := pick_sub [some 1, some 2, some 3, some 4, some 0, some 5] _ rfl
 have hst := hst0.res hsn
 replace hs_p0_0 := hs_p0_0.step hst
 replace hb5 := he52.box hb5 ((MS.outs (P := [[b_p0]]) hpk2 2 rfl) _ mem1)
 replace ho9 := ho9.step hst he52 (MS.outs (P := [[b_p0]]) hpk2 0 rfl)
 replace ho13 := ho13.step hst he52 (MS.outs (P := [[b_p0]]) hpk2 1 rfl)
 replace hb7 := he52.box hb7 ((MS.outs (P := [[b_p0]]) hpk2 3 rfl) _ mem1)
 replace hs49 := hs49.step hst
 replace hms := hms.ev he52
 replace hev := hev.then he52 (fun b hb => .inl (by simpa using hb))
 replace hb_p0 := hp52_0
 clear hpk hsb hsb0 hpk2 hsb2 hst0 hsn hst
 refine x_u 1 [(28, Vi (IntKind.i64.wrap (p1_0_0 + x51.1)))] ?_
 refine x_fieldAddr (xv := Vp b5 0) (Vp b5 0) rfl rfl rfl (reads_field tfld29_0 _ _) ?_
 refine x_fieldAddr (xv := Vp b5 0) (Vp b5 0) rfl rfl rfl (reads_field tfld27_0 _ _) ?_
 obtain ⟨w53, hr53, hb53, he53⟩ := store_box 0 (Vi (IntKind.i64.wrap (p1_0_0 + x51.1))) #[Vi (IntKind.i64.wrap (p1_0_0 + x51.1)), .slice a11 ((([] : List Int) ++ p1_0_1)).length c11, .slice a15 ((([] : List Int) ++ p1_1)).length c15] tcell3 hb5 rfl rfl rfl
 refine x_store w53 (xv := Vp b5 0) (yv := Vi (IntKind.i64.wrap (p1_0_0 + x51.1))) rfl rfl rfl rfl hr53 ?_
 refine inl1 ?_
 have hst := Stp.ev' (ls := [blk a11, blk a15, [b5], [b7], [b_p0], M]) he53 (mem_flat 2 rfl)
 replace hb_p0 := he53.box hb_p0 (hms.apart 4 2 rfl rfl rfl _ mem1)
 replace hs_p0_0 := hs_p0_0.step hst
 replace ho9 := ho9.step hst he53 (hms.apart 0 2 rfl rfl rfl)
 replace ho13 := ho13.step hst he53 (hms.apart 1 2 rfl rfl rfl)
 replace hb7 := he53.box hb7 (hms.apart 3 2 rfl rfl rfl _ mem1)
 replace hs49 := hs49.step hst
 replace hms := hms.ev he53
 replace hev := hev.then he53 (fun b hb => .inr (hfr.at 2 rfl b hb))
 replace hb5 := hb53
 refine x_end rfl ?_
 refine k_block ?_
 refine k_then ?_
 refine c_norm [(3, Vp b5 0), (4, Vp b7 0)] ⟨rfl, rfl, trivial⟩ (fun J => ?_)
 refine c_sp ?_
 refine x_load (xv := Vp b5 0) (.agg #[Vi (IntKind.i64.wrap (p1_0_0 + x51.1)), .slice a11 ((([] : List Int) ++ p1_0_1)).length c11, .slice a15 ((([] : List Int) ++ p1_1)).length c15]) rfl rfl rfl (reads_boxagg 0 [Vi (IntKind.i64.wrap (p1_0_0 + x51.1)), .slice a11 ((([] : List Int) ++ p1_0_1)).length c11, .slice a15 ((([] : List Int) ++ p1_1)).length c15] tagg29 hb5 nn rfl) ?_
 obtain ⟨w54, hr54, hb54, he54⟩ := store_boxagg 0 [Vi (IntKind.i64.wrap (p1_0_0 + x51.1)), .slice a11 ((([] : List Int) ++ p1_0_1)).length c11, .slice a15 ((([] : List Int) ++ p1_1)).length c15] #[Vi (IntKind.i64.wrap (p1_0_0 + x51.1)), .slice a11 ((([] : List Int) ++ p1_0_1)).length c11, .slice a15 ((([] : List Int) ++ p1_1)).length c15] tagg29 hb7 rfl rfl rfl
 refine x_store w54 (xv := Vp b7 0) (yv := .agg #[Vi (IntKind.i64.wrap (p1_0_0 + x51.1)), .slice a11 ((([] : List Int) ++ p1_0_1)).length c11, .slice a15 ((([] : List Int) ++ p1_1)).length c15]) rfl rfl rfl rfl hr54 ?_
 refine inl1 ?_
 have hst := Stp.ev' (ls := [blk a11, blk a15, [b5], [b7], [b_p0], M]) he54 (mem_flat 3 rfl)
 replace hb_p0 := he54.box hb_p0 (hms.apart 4 3 rfl rfl rfl _ mem1)
 replace hs_p0_0 := hs_p0_0.step hst
 replace hb5 := he54.box hb5 (hms.apart 2 3 rfl rfl rfl _ mem1)
 replace ho9 := ho9.step hst he54 (hms.apart 0 3 rfl rfl rfl)
 replace ho13 := ho13.step hst he54 (hms.apart 1 3 rfl rfl rfl)
 replace hms := hms.ev he54
 replace hev := hev.then he54 (fun b hb => .inr (hfr.at 3 rfl b hb))
 replace hb7 := hb54
 refine x_ek ?_
 refine c_ret ?_
 refine r_ret (r_vals [.agg #[Vi (IntKind.i64.wrap (p1_0_0 + x51.1)), .slice a11 ((([] : List Int) ++ p1_0_1)).length c11, .slice a15 ((([] : List Int) ++ p1_1)).length c15]] ⟨⟨_, rfl, loadVar_of_reads (reads_boxagg (Mo := []) 0 [Vi (IntKind.i64.wrap (p1_0_0 + x51.1)), .slice a11 ((([] : List Int) ++ p1_0_1)).length c11, .slice a15 ((([] : List Int) ++ p1_1)).length c15] tagg29 hb7 nn rfl)⟩, trivial⟩ ?_)
 have hx := some_inj h
 subst hx
 have hmr : MS w54 [blk a11, blk a15, [b_p0], M] := hms.pick [some 0, some 1, some 4, some 5] _ rfl
 have hsu : ∀ x ∈ fl [blk a11, blk a15, [b_p0], M], x ∈ fl [blk a11, blk a15, [b5], [b7], [b_p0], M] := pick_sub [some 0, some 1, some 4, some 5] _ rfl
 have hfe : FR w.heap.size [blk a11, blk a15] := hfr.pick [some 0, some 1] _ rfl
 exact ⟨a11, c11, a15, c15, rfl, hev, hb_p0, hmr, hfe, ho9.sub hsu, ho13.sub hsu⟩
end Go.Proofs.Ytcignnfdpgeogaa
