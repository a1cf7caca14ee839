
/- Walks, printed by program: each function returns what the partial function of the same name returns. Conditions: those of each theorem. -/
import Derived.Test.YtcignnfdpgeogaaGT
import Derived.Test.YtcignnfdpgeogaaGr13
set_option linter.unusedVariables false
set_option linter.unusedSimpArgs false
set_option maxRecDepth 4000
namespace Go.Proofs.Ytcignnfdpgeogaa
open Go Go.V Go.Proofs
def r15_Make (p0_0 : List (Int × Int × Int × Int)) (p0_1 : Int) : Option (((Int × (List Int)) × (List Int)) × Int) :=
((r13_Least p0_0 p0_1).bind fun x6 =>
(if (x6.2 != 0) = true then
some (((0, []), []), x6.2)
else
((r13_Witness p0_0 p0_1).bind fun x14 =>
some (((x6.1.1, x6.1.2), x14.1), 0))))

theorem r15_Make_w (a_p0_0 : Option Addr) (c_p0_0 : Nat) (p0_0 : List (Int × Int × Int × Int)) (p0_1 : Int) (r : ((Int × (List Int)) × (List Int)) × Int) (w : World) (M : List Nat) (hms : MS w [M]) (hs_p0_0 : SlR (eIt4) w (fl [M]) a_p0_0 c_p0_0 p0_0) (h : r15_Make p0_0 p0_1 = some r) : CallVC Try.prog 11 [.agg #[Vl a_p0_0 p0_0 c_p0_0, Vi p0_1]] w fun v w' => ∃ (a0' : Option Addr), ∃ (c0' : Nat), ∃ (a2' : Option Addr), ∃ (c2' : Nat), v = .tuple #[.agg #[Vi r.1.1.1, Vl a0' r.1.1.2 c0', Vl a2' r.1.2 c2'], Vi r.2] ∧ Ev [] w w' ∧ MS w' [blk a0', blk a2', M] ∧ FR w.heap.size [blk a0', blk a2'] ∧ OwnS (eInt .i64) 3 w' (fl [blk a0', blk a2', M]) a0' c0' r.1.1.2 ∧ OwnS (eInt .i64) 3 w' (fl [blk a0', blk a2', M]) a2' c2' r.1.2 := by
 refine calls_vc hmx Try.func11 (by kernel_rfl) rfl (rs := [.cell 2 29, .tmp 3]) rfl (by kernel_rfl) (args := [.agg #[Vl a_p0_0 p0_0 c_p0_0, Vi p0_1]]) rfl ?_
 have hev : Ev [] w w := Ev.refl _ _
 have hfr : FR w.heap.size [] := FR.nil _
 refine c_sp ?_
 refine x_box (xv := .agg #[Vl a_p0_0 p0_0 c_p0_0, Vi p0_1]) rfl rfl rfl (fun b2 w2 hq2 hb2 he2 hz2 => ?_)
 replace hb2 : w2.heap[b2]? = some (.cells #[Vl a_p0_0 p0_0 c_p0_0, Vi p0_1] 25 (0, 0)) := hb2
 refine inl1 ?_
 have hst := Stp.box (ls := [M]) he2 hq2
 replace hs_p0_0 := hs_p0_0.step hst
 replace hms := hms.box he2 hq2 hb2
 replace hfr := hfr.box hev.size hq2
 replace hev := hev.ext he2
 refine x_alloc (z := .agg #[Vi 0, .slice none 0 0, .slice none 0 0]) rfl rfl (by kernel_rfl) (fun b4 w4 hq4 hb4 he4 hz4 => ?_)
 replace hb4 : w4.heap[b4]? = some (.cells #[Vi 0, .slice none 0 0, .slice none 0 0] 29 (0, 0)) := hb4
 refine inl1 ?_
 have hst := Stp.box (ls := [[b2], M]) he4 hq4
 replace hs_p0_0 := hs_p0_0.step hst
 replace hb2 := he4.box hb2 nn
 replace hms := hms.box he4 hq4 hb4
 replace hfr := hfr.box hev.size hq4
 replace hev := hev.ext he4
 refine x_u 1 [(3, Vi 0)] ?_
 refine x_ek ?_
 refine c_sp ?_
 refine x_load (xv := Vp b2 0) (.agg #[Vl a_p0_0 p0_0 c_p0_0, Vi p0_1]) rfl rfl rfl (reads_boxagg 0 [Vl a_p0_0 p0_0 c_p0_0, Vi p0_1] tagg25 hb2 nn rfl) ?_
 obtain ⟨x6, hx, h⟩ := bind_some h
 have hpk : MS w4 ([] ++ [[b4], [b2], M]) := hms.pick [some 0, some 1, some 2] _ rfl
 have hsb0 : ∀ x ∈ fl ([] ++ [[b4], [b2], M]), x ∈ fl [[b4], [b2], M] := pick_sub [some 0, some 1, some 2] _ rfl
 have hsb : ∀ x ∈ fl ([] ++ [(fl [[b4], [b2], M])]), x ∈ fl [[b4], [b2], M] := fun x hx => hsb0 x (fl_unfold x hx)
 have hcall := r13_Least_w a_p0_0 c_p0_0 p0_0 p0_1 _ w4 (fl [[b4], [b2], M]) (MS.fold (P := []) hpk) (hs_p0_0.sub hsb) hx
 refine x_call 33 #[] #[] [.agg #[Vl a_p0_0 p0_0 c_p0_0, Vi p0_1]] _ rfl rfl rfl rfl hcall ?_
 rintro v w7 ⟨a0_7, c0_7, rfl, he7, hmn7, hfn7, hf7_1⟩
 clear hcall hx
 refine inl1 ?_
 have hpk2 : MS w4 ([] ++ [[b4], [b2], M]) := hms.pick [some 0, some 1, some 2] _ rfl
 have hsb2 : ∀ x ∈ fl ([] ++ [[b4], [b2], M]), x ∈ fl [[b4], [b2], M] := pick_sub [some 0, some 1, some 2] _ rfl
 have hst0 := Stp.call (LS := [[b4], [b2], M]) (res := [blk a0_7]) (par := []) (R := [[b4], [b2], M]) he7 (fun b hb => hsb2 b (fl_left' (P := []) b hb)) hfn7 (NP.init _ _) (fun x hx => hsb2 x (fl_right' (P := []) x hx))
 have hsn : ∀ x ∈ fl [blk a0_7, [b4], [b2], M], x ∈ fl ([blk a0_7] ++ ([] ++ [[b4], [b2], M])) := pick_sub [some 0, some 1, some 2, some 3] _ rfl
 have hst := hst0.res hsn
 replace hs_p0_0 := hs_p0_0.step hst
 replace hb2 := he7.box hb2 ((MS.outs (P := []) hpk2 1 rfl) _ mem1)
 replace hb4 := he7.box hb4 ((MS.outs (P := []) hpk2 0 rfl) _ mem1)
 replace hms : MS w7 [blk a0_7, [b4], [b2], M] := (MS.call (P := []) (R := [[b4], [b2], M]) (res := [blk a0_7]) (par := []) hpk2 he7 hmn7 hfn7 (NP.init _ _)).pick [some 0, some 1, some 2, some 3] _ rfl
 have hfr2 : FR w.heap.size [blk a0_7, [b4], [b2]] := (FR.cons (fun b hb => Nat.le_trans hev.size (hfn7.at 0 rfl b hb)) (FR.cons (hfr.at 0 rfl) (FR.cons (hfr.at 1 rfl) (FR.nil _))))
 replace hev := hev.ext he7
 replace hfr := hfr2
 clear hfr2
 replace hf7_1 := OwnS.plain (M' := fl [blk a0_7, [b4], [b2], M]) (plain_int _) hf7_1
 clear hpk hsb hsb0 hpk2 hsb2 hst0 hsn hst
 refine x_u 3 [(8, .tuple #[.agg #[Vi x6.1.1, Vl a0_7 x6.1.2 c0_7], Vi x6.2]), (11, .agg #[Vi x6.1.1, Vl a0_7 x6.1.2 c0_7]), (12, Vi x6.2)] ?_
 refine x_alloc (z := .agg #[Vi 0, .slice none 0 0]) rfl rfl (by kernel_rfl) (fun b9 w9 hq9 hb9 he9 hz9 => ?_)
 replace hb9 : w9.heap[b9]? = some (.cells #[Vi 0, .slice none 0 0] 27 (0, 0)) := hb9
 refine inl1 ?_
 have hst := Stp.box (ls := [blk a0_7, [b4], [b2], M]) he9 hq9
 replace hs_p0_0 := hs_p0_0.step hst
 replace hb2 := he9.box hb2 nn
 replace hb4 := he9.box hb4 nn
 replace hf7_1 := hf7_1.step hst he9 nn2
 replace hms := hms.box he9 hq9 hb9
 replace hfr := hfr.box hev.size hq9
 replace hev := hev.ext he9
 obtain ⟨w11, hr11, hb11, he11⟩ := store_boxagg 0 [Vi x6.1.1, Vl a0_7 x6.1.2 c0_7] #[Vi x6.1.1, Vl a0_7 x6.1.2 c0_7] tagg27 hb9 rfl rfl rfl
 refine x_store w11 (xv := Vp b9 0) (yv := .agg #[Vi x6.1.1, Vl a0_7 x6.1.2 c0_7]) rfl rfl rfl rfl hr11 ?_
 refine inl1 ?_
 have hst := Stp.ev' (ls := [[b9], blk a0_7, [b4], [b2], M]) he11 (mem_flat 0 rfl)
 replace hs_p0_0 := hs_p0_0.step hst
 replace hb2 := he11.box hb2 (hms.apart 3 0 rfl rfl rfl _ mem1)
 replace hb4 := he11.box hb4 (hms.apart 2 0 rfl rfl rfl _ mem1)
 replace hf7_1 := hf7_1.step hst he11 (hms.apart 1 0 rfl rfl rfl)
 replace hms := hms.ev he11
 replace hev := hev.then he11 (fun b hb => .inr (hfr.at 0 rfl b hb))
 replace hb9 := hb11
 refine x_u 1 [(5, Vi x6.2)] ?_
 refine x_ek ?_
 refine c_seq ?_
 refine c_sp ?_
 refine x_u 2 [(13, Vi x6.2), (14, .bool (x6.2 != 0))] ?_
 refine x_ek ?_
 refine c_if (x6.2 != 0) rfl h (fun h => ?_) (fun h => ?_)
 · refine c_sp ?_
   refine x_build (vs := []) (.agg #[Vi 0, .slice none 0 0, .slice none 0 0]) rfl rfl rfl (fun _ _ => by kernel_rfl) ?_
   refine x_u 1 [(16, Vi x6.2)] ?_
   obtain ⟨w13, hr13, hb13, he13⟩ := store_boxagg 0 [Vi 0, .slice none 0 0, .slice none 0 0] #[Vi 0, .slice none 0 0, .slice none 0 0] tagg29 hb4 rfl rfl rfl
   refine x_store w13 (xv := Vp b4 0) (yv := .agg #[Vi 0, .slice none 0 0, .slice none 0 0]) rfl rfl rfl rfl hr13 ?_
   refine inl1 ?_
   have hst := Stp.ev' (ls := [[b9], blk a0_7, [b4], [b2], M]) he13 (mem_flat 2 rfl)
   replace hs_p0_0 := hs_p0_0.step hst
   replace hb2 := he13.box hb2 (hms.apart 3 2 rfl rfl rfl _ mem1)
   replace hf7_1 := hf7_1.step hst he13 (hms.apart 1 2 rfl rfl rfl)
   replace hb9 := he13.box hb9 (hms.apart 0 2 rfl rfl rfl _ mem1)
   replace hms := hms.ev he13
   replace hev := hev.then he13 (fun b hb => .inr (hfr.at 2 rfl b hb))
   replace hb4 := hb13
   refine x_u 1 [(3, Vi x6.2)] ?_
   refine x_ek ?_
   refine c_norm [(2, Vp b4 0), (3, Vi x6.2)] ⟨rfl, rfl, trivial⟩ (fun J => ?_)
   refine c_ret ?_
   refine k_then_ret ?_
   refine r_ret (r_vals [.agg #[Vi 0, .slice none 0 0, .slice none 0 0], Vi x6.2] ⟨⟨_, rfl, loadVar_of_reads (reads_boxagg (Mo := []) 0 [Vi 0, .slice none 0 0, .slice none 0 0] tagg29 hb4 nn rfl)⟩, rfl, trivial⟩ ?_)
   have hx := some_inj h
   subst hx
   have hmr : MS w13 [blk none, blk none, M] := hms.pick [none, none, some 4] _ rfl
   have hsu : ∀ x ∈ fl [blk none, blk none, M], x ∈ fl [[b9], blk a0_7, [b4], [b2], M] := pick_sub [none, none, some 4] _ rfl
   have hfe : FR w.heap.size [blk none, blk none] := hfr.pick [none, none] _ rfl
   exact ⟨none, 0, none, 0, rfl, hev, hmr, hfe, OwnS.nil _ _ _ _, OwnS.nil _ _ _ _⟩
 refine c_skip ?_
 refine k_then ?_
 refine c_sp ?_
 refine x_load (xv := Vp b2 0) (.agg #[Vl a_p0_0 p0_0 c_p0_0, Vi p0_1]) rfl rfl rfl (reads_boxagg 0 [Vl a_p0_0 p0_0 c_p0_0, Vi p0_1] tagg25 hb2 nn rfl) ?_
 obtain ⟨x14, hx, h⟩ := bind_some h
 have hpk : MS w11 ([] ++ [[b9], blk a0_7, [b4], [b2], M]) := hms.pick [some 0, some 1, some 2, some 3, some 4] _ rfl
 have hsb0 : ∀ x ∈ fl ([] ++ [[b9], blk a0_7, [b4], [b2], M]), x ∈ fl [[b9], blk a0_7, [b4], [b2], M] := pick_sub [some 0, some 1, some 2, some 3, some 4] _ rfl
 have hsb : ∀ x ∈ fl ([] ++ [(fl [[b9], blk a0_7, [b4], [b2], M])]), x ∈ fl [[b9], blk a0_7, [b4], [b2], M] := fun x hx => hsb0 x (fl_unfold x hx)
 have hcall := r13_Witness_w a_p0_0 c_p0_0 p0_0 p0_1 _ w11 (fl [[b9], blk a0_7, [b4], [b2], M]) (MS.fold (P := []) hpk) (hs_p0_0.sub hsb) hx
 refine x_call 34 #[] #[] [.agg #[Vl a_p0_0 p0_0 c_p0_0, Vi p0_1]] _ rfl rfl rfl rfl hcall ?_
 rintro v w15 ⟨a0_15, c0_15, rfl, he15, hmn15, hfn15, hf15_1⟩
 clear hcall hx
 refine inl1 ?_
 have hpk2 : MS w11 ([] ++ [[b9], blk a0_7, [b4], [b2], M]) := hms.pick [some 0, some 1, some 2, some 3, some 4] _ rfl
 have hsb2 : ∀ x ∈ fl ([] ++ [[b9], blk a0_7, [b4], [b2], M]), x ∈ fl [[b9], blk a0_7, [b4], [b2], M] := pick_sub [some 0, some 1, some 2, some 3, some 4] _ rfl
 have hst0 := Stp.call (LS := [[b9], blk a0_7, [b4], [b2], M]) (res := [blk a0_15]) (par := []) (R := [[b9], blk a0_7, [b4], [b2], M]) he15 (fun b hb => hsb2 b (fl_left' (P := []) b hb)) hfn15 (NP.init _ _) (fun x hx => hsb2 x (fl_right' (P := []) x hx))
 have hsn : ∀ x ∈ fl [blk a0_15, [b9], blk a0_7, [b4], [b2], M], x ∈ fl ([blk a0_15] ++ ([] ++ [[b9], blk a0_7, [b4], [b2], M])) := pick_sub [some 0, some 1, some 2, some 3, some 4, some 5] _ rfl
 have hst := hst0.res hsn
 replace hs_p0_0 := hs_p0_0.step hst
 replace hb2 := he15.box hb2 ((MS.outs (P := []) hpk2 3 rfl) _ mem1)
 replace hb4 := he15.box hb4 ((MS.outs (P := []) hpk2 2 rfl) _ mem1)
 replace hf7_1 := hf7_1.step hst he15 (MS.outs (P := []) hpk2 1 rfl)
 replace hb9 := he15.box hb9 ((MS.outs (P := []) hpk2 0 rfl) _ mem1)
 replace hms : MS w15 [blk a0_15, [b9], blk a0_7, [b4], [b2], M] := (MS.call (P := []) (R := [[b9], blk a0_7, [b4], [b2], M]) (res := [blk a0_15]) (par := []) hpk2 he15 hmn15 hfn15 (NP.init _ _)).pick [some 0, some 1, some 2, some 3, some 4, some 5] _ rfl
 have hfr2 : FR w.heap.size [blk a0_15, [b9], blk a0_7, [b4], [b2]] := (FR.cons (fun b hb => Nat.le_trans hev.size (hfn15.at 0 rfl b hb)) (FR.cons (hfr.at 0 rfl) (FR.cons (hfr.at 1 rfl) (FR.cons (hfr.at 2 rfl) (FR.cons (hfr.at 3 rfl) (FR.nil _))))))
 replace hev := hev.ext he15
 replace hfr := hfr2
 clear hfr2
 replace hf15_1 := OwnS.plain (M' := fl [blk a0_15, [b9], blk a0_7, [b4], [b2], M]) (plain_int _) hf15_1
 clear hpk hsb hsb0 hpk2 hsb2 hst0 hsn hst
 refine x_u 5 [(17, .tuple #[Vl a0_15 x14.1 c0_15, Vi x14.2]), (20, Vl a0_15 x14.1 c0_15), (21, Vi x14.2), (6, Vl a0_15 x14.1 c0_15), (7, Vi x14.2)] ?_
 refine x_ek ?_
 refine c_norm [(2, Vp b4 0), (4, Vp b9 0), (6, Vl a0_15 x14.1 c0_15)] ⟨rfl, rfl, rfl, trivial⟩ (fun J => ?_)
 refine c_sp ?_
 refine x_load (xv := Vp b9 0) (.agg #[Vi x6.1.1, Vl a0_7 x6.1.2 c0_7]) rfl rfl rfl (reads_boxagg 0 [Vi x6.1.1, Vl a0_7 x6.1.2 c0_7] tagg27 hb9 nn rfl) ?_
 refine x_u 1 [(23, Vl a0_15 x14.1 c0_15)] ?_
 refine x_build (vs := [(0, .agg #[Vi x6.1.1, Vl a0_7 x6.1.2 c0_7]), (1, Vl a0_15 x14.1 c0_15)]) (.agg #[Vi x6.1.1, Vl a0_7 x6.1.2 c0_7, Vl a0_15 x14.1 c0_15]) rfl rfl rfl (fun _ _ => by kernel_rfl) ?_
 obtain ⟨w17, hr17, hb17, he17⟩ := store_boxagg 0 [Vi x6.1.1, Vl a0_7 x6.1.2 c0_7, Vl a0_15 x14.1 c0_15] #[Vi x6.1.1, Vl a0_7 x6.1.2 c0_7, Vl a0_15 x14.1 c0_15] tagg29 hb4 rfl rfl rfl
 refine x_store w17 (xv := Vp b4 0) (yv := .agg #[Vi x6.1.1, Vl a0_7 x6.1.2 c0_7, Vl a0_15 x14.1 c0_15]) rfl rfl rfl rfl hr17 ?_
 refine inl1 ?_
 have hst := Stp.ev' (ls := [blk a0_15, [b9], blk a0_7, [b4], [b2], M]) he17 (mem_flat 3 rfl)
 replace hs_p0_0 := hs_p0_0.step hst
 replace hb2 := he17.box hb2 (hms.apart 4 3 rfl rfl rfl _ mem1)
 replace hf7_1 := hf7_1.step hst he17 (hms.apart 2 3 rfl rfl rfl)
 replace hb9 := he17.box hb9 (hms.apart 1 3 rfl rfl rfl _ mem1)
 replace hf15_1 := hf15_1.step hst he17 (hms.apart 0 3 rfl rfl rfl)
 replace hms := hms.ev he17
 replace hev := hev.then he17 (fun b hb => .inr (hfr.at 3 rfl b hb))
 replace hb4 := hb17
 refine x_u 1 [(3, Vi 0)] ?_
 refine x_ek ?_
 refine c_ret ?_
 refine r_ret (r_vals [.agg #[Vi x6.1.1, Vl a0_7 x6.1.2 c0_7, Vl a0_15 x14.1 c0_15], Vi 0] ⟨⟨_, rfl, loadVar_of_reads (reads_boxagg (Mo := []) 0 [Vi x6.1.1, Vl a0_7 x6.1.2 c0_7, Vl a0_15 x14.1 c0_15] tagg29 hb4 nn rfl)⟩, rfl, trivial⟩ ?_)
 have hx := some_inj h
 subst hx
 have hmr : MS w17 [blk a0_7, blk a0_15, M] := hms.pick [some 2, some 0, some 5] _ rfl
 have hsu : ∀ x ∈ fl [blk a0_7, blk a0_15, M], x ∈ fl [blk a0_15, [b9], blk a0_7, [b4], [b2], M] := pick_sub [some 2, some 0, some 5] _ rfl
 have hfe : FR w.heap.size [blk a0_7, blk a0_15] := hfr.pick [some 2, some 0] _ rfl
 exact ⟨a0_7, c0_7, a0_15, c0_15, rfl, hev, hmr, hfe, hf7_1.sub hsu, hf15_1.sub hsu⟩
def r15_valid_L14 (p0_1 : List Int) (s : Bool × Int) : Option (Step (Bool × Int) Bool) :=
match s with
| (ok_s3_l14, i_s5_l14) =>
(if (decide (i_s5_l14 < ((p0_1).length : Int))) = true then
(if ok_s3_l14 = true then
((idx p0_1 i_s5_l14).bind fun x16 =>
(if (decide (x16 ≥ 0)) = true then
((idx p0_1 i_s5_l14).bind fun x18 =>
some (.next (decide (x18 < 96), IntKind.i64.wrap (i_s5_l14 + 1))))
else
some (.next (false, IntKind.i64.wrap (i_s5_l14 + 1)))))
else
some (.next (false, IntKind.i64.wrap (i_s5_l14 + 1))))
else
some (.done ok_s3_l14))

def r15_valid_L8 (p0_0_1 : List Int) (s : Bool × Int) : Option (Step (Bool × Int) Bool) :=
match s with
| (ok_s3_l8, i_s4_l8) =>
(if (decide (i_s4_l8 < ((p0_0_1).length : Int))) = true then
(if ok_s3_l8 = true then
((idx p0_0_1 i_s4_l8).bind fun x10 =>
(if (decide (x10 ≥ 0)) = true then
((idx p0_0_1 i_s4_l8).bind fun x12 =>
some (.next (decide (x12 < 4096), IntKind.i64.wrap (i_s4_l8 + 1))))
else
some (.next (false, IntKind.i64.wrap (i_s4_l8 + 1)))))
else
some (.next (false, IntKind.i64.wrap (i_s4_l8 + 1))))
else
some (.done ok_s3_l8))

def r15_valid_J6 (p0_0_1 : List Int) (p0_1 : List Int) (ok_s3_j6 : Bool) : Option Int :=
((loop (r15_valid_L8 p0_0_1) (ok_s3_j6, 0)).bind fun d => match d with
| ok_s3_x8 => ((loop (r15_valid_L14 p0_1) (ok_s3_x8, 0)).bind fun d => match d with
| ok_s3_x14 => (if (!ok_s3_x14) = true then
some 2
else
some 0)))

def r15_valid (p0_0_0 : Int) (p0_0_1 : List Int) (p0_1 : List Int) : Option Int :=
(if (decide (((p0_0_1).length : Int) > 96)) = true then
some 3
else
(if (decide (((p0_1).length : Int) > 96)) = true then
some 3
else
(if (decide (p0_0_0 ≥ 0)) = true then
r15_valid_J6 p0_0_1 p0_1 (decide (p0_0_0 ≤ 12))
else
r15_valid_J6 p0_0_1 p0_1 false)))

theorem r15_valid_w (p0_0_0 : Int) (a_p0_0_1 : Option Addr) (c_p0_0_1 : Nat) (p0_0_1 : List Int) (a_p0_1 : Option Addr) (c_p0_1 : Nat) (p0_1 : List Int) (r : Int) (w : World) (M : List Nat) (hms : MS w [M]) (hs_p0_0_1 : SlR (eInt .i64) w (fl [M]) a_p0_0_1 c_p0_0_1 p0_0_1) (hs_p0_1 : SlR (eInt .i64) w (fl [M]) a_p0_1 c_p0_1 p0_1) (h : r15_valid p0_0_0 p0_0_1 p0_1 = some r) : CallVC Try.prog 47 [.agg #[Vi p0_0_0, Vl a_p0_0_1 p0_0_1 c_p0_0_1, Vl a_p0_1 p0_1 c_p0_1]] w fun v w' => v = Vi r ∧ Ev [] w w' := by
 refine calls_vc hmx Try.func47 (by kernel_rfl) rfl (rs := [.tmp 2]) rfl (by kernel_rfl) (args := [.agg #[Vi p0_0_0, Vl a_p0_0_1 p0_0_1 c_p0_0_1, Vl a_p0_1 p0_1 c_p0_1]]) rfl ?_
 have hev : Ev [] w w := Ev.refl _ _
 have hfr : FR w.heap.size [] := FR.nil _
 refine c_sp ?_
 refine x_box (xv := .agg #[Vi p0_0_0, Vl a_p0_0_1 p0_0_1 c_p0_0_1, Vl a_p0_1 p0_1 c_p0_1]) rfl rfl rfl (fun b3 w3 hq3 hb3 he3 hz3 => ?_)
 replace hb3 : w3.heap[b3]? = some (.cells #[Vi p0_0_0, Vl a_p0_0_1 p0_0_1 c_p0_0_1, Vl a_p0_1 p0_1 c_p0_1] 29 (0, 0)) := hb3
 refine inl1 ?_
 have hst := Stp.box (ls := [M]) he3 hq3
 replace hs_p0_0_1 := hs_p0_0_1.step hst
 replace hs_p0_1 := hs_p0_1.step hst
 replace hms := hms.box he3 hq3 hb3
 replace hfr := hfr.box hev.size hq3
 replace hev := hev.ext he3
 refine x_u 1 [(2, Vi 0)] ?_
 refine x_ek ?_
 refine c_seq ?_
 refine c_sp ?_
 refine x_fieldAddr (xv := Vp b3 0) (Vp b3 0) rfl rfl rfl (reads_field tfld29_0 _ _) ?_
 refine x_fieldAddr (xv := Vp b3 0) (Vp b3 1) rfl rfl rfl (reads_field tfld27_1 _ _) ?_
 refine x_load (xv := Vp b3 1) (Vl a_p0_0_1 p0_0_1 c_p0_0_1) rfl rfl rfl (reads_box tcell22 hb3 nn 1 _ rfl) ?_
 refine x_len (vs := [Vl a_p0_0_1 p0_0_1 c_p0_0_1]) (Vi ((p0_0_1).length : Int)) rfl rfl rfl (reads_len tsl22 _ _ _ _ _) ?_
 refine x_u 2 [(10, .bool (decide (((p0_0_1).length : Int) > 96))), (11, .bool (decide (((p0_0_1).length : Int) > 96)))] ?_
 refine x_if 11 (decide (((p0_0_1).length : Int) > 96)) rfl h (fun h => ?_) (fun h => ?_)
 · refine x_u 5 [(12, undef), (13, undef), (14, undef), (15, undef), (16, .bool true)] ?_
   refine x_ek ?_
   refine c_norm [(1, Vp b3 0), (16, .bool true)] ⟨rfl, rfl, trivial⟩ (fun J => ?_)
   refine c_true rfl ?_
   refine c_sp ?_
   refine x_u 1 [(2, Vi 3)] ?_
   refine x_ek ?_
   refine c_ret ?_
   refine k_then_ret ?_
   refine r_ret (r_vals [Vi 3] ⟨rfl, trivial⟩ ?_)
   have hx := some_inj h
   subst hx
   have hmr : MS w3 [M] := hms.pick [some 1] _ rfl
   have hsu : ∀ x ∈ fl [M], x ∈ fl [[b3], M] := pick_sub [some 1] _ rfl
   exact ⟨rfl, hev⟩
 refine x_fieldAddr (xv := Vp b3 0) (Vp b3 2) rfl rfl rfl (reads_field tfld29_1 _ _) ?_
 refine x_load (xv := Vp b3 2) (Vl a_p0_1 p0_1 c_p0_1) rfl rfl rfl (reads_box tcell22 hb3 nn 2 _ rfl) ?_
 refine x_len (vs := [Vl a_p0_1 p0_1 c_p0_1]) (Vi ((p0_1).length : Int)) rfl rfl rfl (reads_len tsl22 _ _ _ _ _) ?_
 refine x_u 2 [(15, .bool (decide (((p0_1).length : Int) > 96))), (16, .bool (decide (((p0_1).length : Int) > 96)))] ?_
 refine x_ek ?_
 refine c_norm [(1, Vp b3 0), (16, .bool (decide (((p0_1).length : Int) > 96)))] ⟨rfl, rfl, trivial⟩ (fun J => ?_)
 refine c_if (decide (((p0_1).length : Int) > 96)) rfl h (fun h => ?_) (fun h => ?_)
 · refine c_sp ?_
   refine x_u 1 [(2, Vi 3)] ?_
   refine x_ek ?_
   refine c_ret ?_
   refine k_then_ret ?_
   refine r_ret (r_vals [Vi 3] ⟨rfl, trivial⟩ ?_)
   have hx := some_inj h
   subst hx
   have hmr : MS w3 [M] := hms.pick [some 1] _ rfl
   have hsu : ∀ x ∈ fl [M], x ∈ fl [[b3], M] := pick_sub [some 1] _ rfl
   exact ⟨rfl, hev⟩
 refine c_skip ?_
 refine k_then ?_
 refine c_join (σ := Bool) (fun s => match s with | ok_s3_j6 => [(1, Vp b3 0), (3, .bool ok_s3_j6)]) (fun s w' => match s with | ok_s3_j6 => r15_valid_J6 p0_0_1 p0_1 ok_s3_j6 = some r ∧ Ev [] w w' ∧ MS w' [[b3], M] ∧ FR w.heap.size [[b3]] ∧ SlR (eInt .i64) w' (fl [[b3], M]) a_p0_0_1 c_p0_0_1 p0_0_1 ∧ SlR (eInt .i64) w' (fl [[b3], M]) a_p0_1 c_p0_1 p0_1 ∧ w'.heap[b3]? = some (.cells #[Vi p0_0_0, Vl a_p0_0_1 p0_0_1 c_p0_0_1, Vl a_p0_1 p0_1 c_p0_1] 29 (0, 0))) ?_ ?_
 · refine c_plain ?_
   refine x_fieldAddr (xv := Vp b3 0) (Vp b3 0) rfl rfl rfl (reads_field tfld29_0 _ _) ?_
   refine x_fieldAddr (xv := Vp b3 0) (Vp b3 0) rfl rfl rfl (reads_field tfld27_0 _ _) ?_
   refine x_load (xv := Vp b3 0) (Vi p0_0_0) rfl rfl rfl (reads_box tcell3 hb3 nn 0 _ rfl) ?_
   refine x_u 2 [(20, .bool (decide (p0_0_0 ≥ 0))), (21, .bool (decide (p0_0_0 ≥ 0)))] ?_
   refine x_if 21 (decide (p0_0_0 ≥ 0)) rfl h (fun h => ?_) (fun h => ?_)
   · refine x_fieldAddr (xv := Vp b3 0) (Vp b3 0) rfl rfl rfl (reads_field tfld29_0 _ _) ?_
     refine x_fieldAddr (xv := Vp b3 0) (Vp b3 0) rfl rfl rfl (reads_field tfld27_0 _ _) ?_
     refine x_load (xv := Vp b3 0) (Vi p0_0_0) rfl rfl rfl (reads_box tcell3 hb3 nn 0 _ rfl) ?_
     refine x_u 3 [(25, .bool (decide (p0_0_0 ≤ 12))), (26, .bool (decide (p0_0_0 ≤ 12))), (3, .bool (decide (p0_0_0 ≤ 12)))] ?_
     refine x_end rfl ?_
     exact k_then ⟨decide (p0_0_0 ≤ 12), ⟨rfl, rfl, trivial⟩, h, hev, hms, hfr, hs_p0_0_1, hs_p0_1, hb3⟩
   refine x_u 6 [(22, undef), (23, undef), (24, undef), (25, undef), (26, .bool false), (3, .bool false)] ?_
   refine x_end rfl ?_
   exact k_then ⟨false, ⟨rfl, rfl, trivial⟩, h, hev, hms, hfr, hs_p0_0_1, hs_p0_1, hb3⟩
 rintro ok_s3_j6 J wj6 ⟨h, hev, hms, hfr, hs_p0_0_1, hs_p0_1, hb3⟩
 refine c_seq ?_
 refine c_sp ?_
 refine x_u 1 [(4, Vi 0)] ?_
 refine x_ek ?_
 refine c_norm [(1, Vp b3 0), (3, .bool ok_s3_j6), (4, Vi 0)] ⟨rfl, rfl, rfl, trivial⟩ (fun J => ?_)
 refine c_block ?_
 obtain ⟨d8, hd8, h8⟩ := bind_some h
 obtain ⟨m8, hd8⟩ := loop_some hd8
 refine c_loop (loop_rule hmx (σ := Nat × Bool × Int) (fun s => match s with | (_, ok_s3_l8, i_s4_l8) => [(1, Vp b3 0), (3, .bool ok_s3_l8), (4, Vi i_s4_l8)]) (fun s w' => match s with | (m, ok_s3_l8, i_s4_l8) => loopN (r15_valid_L8 p0_0_1) m (ok_s3_l8, i_s4_l8) = some d8 ∧ Ev [] w w' ∧ MS w' [[b3], M] ∧ FR w.heap.size [[b3]] ∧ SlR (eInt .i64) w' (fl [[b3], M]) a_p0_0_1 c_p0_0_1 p0_0_1 ∧ SlR (eInt .i64) w' (fl [[b3], M]) a_p0_1 c_p0_1 p0_1 ∧ w'.heap[b3]? = some (.cells #[Vi p0_0_0, Vl a_p0_0_1 p0_0_1 c_p0_0_1, Vl a_p0_1 p0_1 c_p0_1] 29 (0, 0))) (fun s => s.1) (m8, ok_s3_j6, 0) ⟨rfl, rfl, rfl, trivial⟩ ⟨hd8, hev, hms, hfr, hs_p0_0_1, hs_p0_1, hb3⟩ ?_)
 rintro ⟨m8, ok_s3_l8, i_s4_l8⟩ J wl8 ⟨hn8, hev, hms, hfr, hs_p0_0_1, hs_p0_1, hb3⟩
 rcases m8 with _ | m8
 · exact (loopN_zero hn8).elim
 obtain ⟨t8, h, hn8⟩ := bind_some hn8
 refine c_seq ?_
 refine c_sp ?_
 refine x_u 1 [(27, Vi i_s4_l8)] ?_
 refine x_fieldAddr (xv := Vp b3 0) (Vp b3 0) rfl rfl rfl (reads_field tfld29_0 _ _) ?_
 refine x_fieldAddr (xv := Vp b3 0) (Vp b3 1) rfl rfl rfl (reads_field tfld27_1 _ _) ?_
 refine x_load (xv := Vp b3 1) (Vl a_p0_0_1 p0_0_1 c_p0_0_1) rfl rfl rfl (reads_box tcell22 hb3 nn 1 _ rfl) ?_
 refine x_len (vs := [Vl a_p0_0_1 p0_0_1 c_p0_0_1]) (Vi ((p0_0_1).length : Int)) rfl rfl rfl (reads_len tsl22 _ _ _ _ _) ?_
 refine x_u 1 [(32, .bool (decide (i_s4_l8 < ((p0_0_1).length : Int))))] ?_
 refine x_ek ?_
 refine c_norm [(1, Vp b3 0), (3, .bool ok_s3_l8), (4, Vi i_s4_l8), (32, .bool (decide (i_s4_l8 < ((p0_0_1).length : Int))))] ⟨rfl, rfl, rfl, rfl, trivial⟩ (fun J => ?_)
 refine c_if (decide (i_s4_l8 < ((p0_0_1).length : Int))) rfl h (fun h => ?_) (fun h => ?_)
 · refine c_skip ?_
   refine k_then ?_
   refine c_seq ?_
   refine c_block ?_
   refine c_plain ?_
   refine x_u 2 [(35, .bool ok_s3_l8), (36, .bool ok_s3_l8)] ?_
   refine x_if 36 ok_s3_l8 rfl h (fun h => ?_) (fun h => ?_)
   · refine x_fieldAddr (xv := Vp b3 0) (Vp b3 0) rfl rfl rfl (reads_field tfld29_0 _ _) ?_
     refine x_fieldAddr (xv := Vp b3 0) (Vp b3 1) rfl rfl rfl (reads_field tfld27_1 _ _) ?_
     refine x_load (xv := Vp b3 1) (Vl a_p0_0_1 p0_0_1 c_p0_0_1) rfl rfl rfl (reads_box tcell22 hb3 nn 1 _ rfl) ?_
     refine x_u 1 [(40, Vi i_s4_l8)] ?_
     obtain ⟨x10, hx10, h⟩ := bind_some h
     obtain ⟨ad10, cs10, hr10, hc10, hR⟩ := reads_index (Mo := []) tsl22 hs_p0_0_1 hx10
     obtain rfl := hR
     refine x_indexAddr (xv := Vl a_p0_0_1 p0_0_1 c_p0_0_1) (yv := Vi i_s4_l8) (.pointer (some ad10)) rfl rfl rfl rfl hr10 ?_
     refine x_load (xv := .pointer (some ad10)) (Vi x10) rfl rfl rfl (reads_cell0 tcell3 hc10 (fun _ h => by cases h)) ?_
     refine x_u 3 [(43, .bool (decide (x10 ≥ 0))), (44, .bool (decide (x10 ≥ 0))), (45, .bool (decide (x10 ≥ 0)))] ?_
     refine x_if 45 (decide (x10 ≥ 0)) rfl h (fun h => ?_) (fun h => ?_)
     · refine x_fieldAddr (xv := Vp b3 0) (Vp b3 0) rfl rfl rfl (reads_field tfld29_0 _ _) ?_
       refine x_fieldAddr (xv := Vp b3 0) (Vp b3 1) rfl rfl rfl (reads_field tfld27_1 _ _) ?_
       refine x_load (xv := Vp b3 1) (Vl a_p0_0_1 p0_0_1 c_p0_0_1) rfl rfl rfl (reads_box tcell22 hb3 nn 1 _ rfl) ?_
       refine x_u 1 [(49, Vi i_s4_l8)] ?_
       obtain ⟨x12, hx12, h⟩ := bind_some h
       obtain ⟨ad12, cs12, hr12, hc12, hR⟩ := reads_index (Mo := []) tsl22 hs_p0_0_1 hx12
       obtain rfl := hR
       refine x_indexAddr (xv := Vl a_p0_0_1 p0_0_1 c_p0_0_1) (yv := Vi i_s4_l8) (.pointer (some ad12)) rfl rfl rfl rfl hr12 ?_
       refine x_load (xv := .pointer (some ad12)) (Vi x12) rfl rfl rfl (reads_cell0 tcell3 hc12 (fun _ h => by cases h)) ?_
       refine x_u 3 [(52, .bool (decide (x12 < 4096))), (53, .bool (decide (x12 < 4096))), (3, .bool (decide (x12 < 4096)))] ?_
       refine x_end rfl ?_
       refine k_block ?_
       refine k_then ?_
       refine c_norm [(1, Vp b3 0), (3, .bool (decide (x12 < 4096))), (4, Vi i_s4_l8)] ⟨rfl, rfl, rfl, trivial⟩ (fun J => ?_)
       refine c_plain ?_
       refine x_u 3 [(33, Vi i_s4_l8), (34, Vi (IntKind.i64.wrap (i_s4_l8 + 1))), (4, Vi (IntKind.i64.wrap (i_s4_l8 + 1)))] ?_
       refine x_end rfl ?_
       have hx := some_inj h
       subst hx
       exact k_then ⟨(m8, decide (x12 < 4096), IntKind.i64.wrap (i_s4_l8 + 1)), ⟨rfl, rfl, rfl, trivial⟩, ⟨hn8, hev, hms, hfr, hs_p0_0_1, hs_p0_1, hb3⟩, Nat.lt_succ_self _⟩
     refine x_u 9 [(46, undef), (47, undef), (48, undef), (49, undef), (50, undef), (51, undef), (52, undef), (53, .bool false), (3, .bool false)] ?_
     refine x_end rfl ?_
     refine k_block ?_
     refine k_then ?_
     refine c_norm [(1, Vp b3 0), (3, .bool false), (4, Vi i_s4_l8)] ⟨rfl, rfl, rfl, trivial⟩ (fun J => ?_)
     refine c_plain ?_
     refine x_u 3 [(33, Vi i_s4_l8), (34, Vi (IntKind.i64.wrap (i_s4_l8 + 1))), (4, Vi (IntKind.i64.wrap (i_s4_l8 + 1)))] ?_
     refine x_end rfl ?_
     have hx := some_inj h
     subst hx
     exact k_then ⟨(m8, false, IntKind.i64.wrap (i_s4_l8 + 1)), ⟨rfl, rfl, rfl, trivial⟩, ⟨hn8, hev, hms, hfr, hs_p0_0_1, hs_p0_1, hb3⟩, Nat.lt_succ_self _⟩
   refine x_u 18 [(37, undef), (38, undef), (39, undef), (40, undef), (41, undef), (42, undef), (43, undef), (44, .bool false), (45, .bool false), (46, undef), (47, undef), (48, undef), (49, undef), (50, undef), (51, undef), (52, undef), (53, .bool false), (3, .bool false)] ?_
   refine x_end rfl ?_
   refine k_block ?_
   refine k_then ?_
   refine c_norm [(1, Vp b3 0), (3, .bool false), (4, Vi i_s4_l8)] ⟨rfl, rfl, rfl, trivial⟩ (fun J => ?_)
   refine c_plain ?_
   refine x_u 3 [(33, Vi i_s4_l8), (34, Vi (IntKind.i64.wrap (i_s4_l8 + 1))), (4, Vi (IntKind.i64.wrap (i_s4_l8 + 1)))] ?_
   refine x_end rfl ?_
   have hx := some_inj h
   subst hx
   exact k_then ⟨(m8, false, IntKind.i64.wrap (i_s4_l8 + 1)), ⟨rfl, rfl, rfl, trivial⟩, ⟨hn8, hev, hms, hfr, hs_p0_0_1, hs_p0_1, hb3⟩, Nat.lt_succ_self _⟩
 refine c_exit ?_
 refine k_then_exit ?_
 have hx := some_inj h
 subst hx
 have hy := some_inj hn8
 subst hy
 replace h := h8
 refine k_then_exit ?_
 refine k_block_in ?_
 refine k_then ?_
 refine c_norm [(1, Vp b3 0), (3, .bool ok_s3_l8)] ⟨rfl, rfl, trivial⟩ (fun J => ?_)
 refine c_seq ?_
 refine c_sp ?_
 refine x_u 1 [(5, Vi 0)] ?_
 refine x_ek ?_
 refine c_block ?_
 obtain ⟨d14, hd14, h14⟩ := bind_some h
 obtain ⟨m14, hd14⟩ := loop_some hd14
 refine c_loop (loop_rule hmx (σ := Nat × Bool × Int) (fun s => match s with | (_, ok_s3_l14, i_s5_l14) => [(1, Vp b3 0), (3, .bool ok_s3_l14), (5, Vi i_s5_l14)]) (fun s w' => match s with | (m, ok_s3_l14, i_s5_l14) => loopN (r15_valid_L14 p0_1) m (ok_s3_l14, i_s5_l14) = some d14 ∧ Ev [] w w' ∧ MS w' [[b3], M] ∧ FR w.heap.size [[b3]] ∧ SlR (eInt .i64) w' (fl [[b3], M]) a_p0_0_1 c_p0_0_1 p0_0_1 ∧ SlR (eInt .i64) w' (fl [[b3], M]) a_p0_1 c_p0_1 p0_1 ∧ w'.heap[b3]? = some (.cells #[Vi p0_0_0, Vl a_p0_0_1 p0_0_1 c_p0_0_1, Vl a_p0_1 p0_1 c_p0_1] 29 (0, 0))) (fun s => s.1) (m14, ok_s3_l8, 0) ⟨rfl, rfl, rfl, trivial⟩ ⟨hd14, hev, hms, hfr, hs_p0_0_1, hs_p0_1, hb3⟩ ?_)
 rintro ⟨m14, ok_s3_l14, i_s5_l14⟩ J wl14 ⟨hn14, hev, hms, hfr, hs_p0_0_1, hs_p0_1, hb3⟩
 rcases m14 with _ | m14
 · exact (loopN_zero hn14).elim
 obtain ⟨t14, h, hn14⟩ := bind_some hn14
 refine c_seq ?_
 refine c_sp ?_
 refine x_u 1 [(54, Vi i_s5_l14)] ?_
 refine x_fieldAddr (xv := Vp b3 0) (Vp b3 2) rfl rfl rfl (reads_field tfld29_1 _ _) ?_
 refine x_load (xv := Vp b3 2) (Vl a_p0_1 p0_1 c_p0_1) rfl rfl rfl (reads_box tcell22 hb3 nn 2 _ rfl) ?_
 refine x_len (vs := [Vl a_p0_1 p0_1 c_p0_1]) (Vi ((p0_1).length : Int)) rfl rfl rfl (reads_len tsl22 _ _ _ _ _) ?_
 refine x_u 1 [(58, .bool (decide (i_s5_l14 < ((p0_1).length : Int))))] ?_
 refine x_ek ?_
 refine c_norm [(1, Vp b3 0), (3, .bool ok_s3_l14), (5, Vi i_s5_l14), (58, .bool (decide (i_s5_l14 < ((p0_1).length : Int))))] ⟨rfl, rfl, rfl, rfl, trivial⟩ (fun J => ?_)
 refine c_if (decide (i_s5_l14 < ((p0_1).length : Int))) rfl h (fun h => ?_) (fun h => ?_)
 · refine c_skip ?_
   refine k_then ?_
   refine c_seq ?_
   refine c_block ?_
   refine c_plain ?_
   refine x_u 2 [(61, .bool ok_s3_l14), (62, .bool ok_s3_l14)] ?_
   refine x_if 62 ok_s3_l14 rfl h (fun h => ?_) (fun h => ?_)
   · refine x_fieldAddr (xv := Vp b3 0) (Vp b3 2) rfl rfl rfl (reads_field tfld29_1 _ _) ?_
     refine x_load (xv := Vp b3 2) (Vl a_p0_1 p0_1 c_p0_1) rfl rfl rfl (reads_box tcell22 hb3 nn 2 _ rfl) ?_
     refine x_u 1 [(65, Vi i_s5_l14)] ?_
     obtain ⟨x16, hx16, h⟩ := bind_some h
     obtain ⟨ad16, cs16, hr16, hc16, hR⟩ := reads_index (Mo := []) tsl22 hs_p0_1 hx16
     obtain rfl := hR
     refine x_indexAddr (xv := Vl a_p0_1 p0_1 c_p0_1) (yv := Vi i_s5_l14) (.pointer (some ad16)) rfl rfl rfl rfl hr16 ?_
     refine x_load (xv := .pointer (some ad16)) (Vi x16) rfl rfl rfl (reads_cell0 tcell3 hc16 (fun _ h => by cases h)) ?_
     refine x_u 3 [(68, .bool (decide (x16 ≥ 0))), (69, .bool (decide (x16 ≥ 0))), (70, .bool (decide (x16 ≥ 0)))] ?_
     refine x_if 70 (decide (x16 ≥ 0)) rfl h (fun h => ?_) (fun h => ?_)
     · refine x_fieldAddr (xv := Vp b3 0) (Vp b3 2) rfl rfl rfl (reads_field tfld29_1 _ _) ?_
       refine x_load (xv := Vp b3 2) (Vl a_p0_1 p0_1 c_p0_1) rfl rfl rfl (reads_box tcell22 hb3 nn 2 _ rfl) ?_
       refine x_u 1 [(73, Vi i_s5_l14)] ?_
       obtain ⟨x18, hx18, h⟩ := bind_some h
       obtain ⟨ad18, cs18, hr18, hc18, hR⟩ := reads_index (Mo := []) tsl22 hs_p0_1 hx18
       obtain rfl := hR
       refine x_indexAddr (xv := Vl a_p0_1 p0_1 c_p0_1) (yv := Vi i_s5_l14) (.pointer (some ad18)) rfl rfl rfl rfl hr18 ?_
       refine x_load (xv := .pointer (some ad18)) (Vi x18) rfl rfl rfl (reads_cell0 tcell3 hc18 (fun _ h => by cases h)) ?_
       refine x_u 3 [(76, .bool (decide (x18 < 96))), (77, .bool (decide (x18 < 96))), (3, .bool (decide (x18 < 96)))] ?_
       refine x_end rfl ?_
       refine k_block ?_
       refine k_then ?_
       refine c_norm [(1, Vp b3 0), (3, .bool (decide (x18 < 96))), (5, Vi i_s5_l14)] ⟨rfl, rfl, rfl, trivial⟩ (fun J => ?_)
       refine c_plain ?_
       refine x_u 3 [(59, Vi i_s5_l14), (60, Vi (IntKind.i64.wrap (i_s5_l14 + 1))), (5, Vi (IntKind.i64.wrap (i_s5_l14 + 1)))] ?_
       refine x_end rfl ?_
       have hx := some_inj h
       subst hx
       exact k_then ⟨(m14, decide (x18 < 96), IntKind.i64.wrap (i_s5_l14 + 1)), ⟨rfl, rfl, rfl, trivial⟩, ⟨hn14, hev, hms, hfr, hs_p0_0_1, hs_p0_1, hb3⟩, Nat.lt_succ_self _⟩
     refine x_u 8 [(71, undef), (72, undef), (73, undef), (74, undef), (75, undef), (76, undef), (77, .bool false), (3, .bool false)] ?_
     refine x_end rfl ?_
     refine k_block ?_
     refine k_then ?_
     refine c_norm [(1, Vp b3 0), (3, .bool false), (5, Vi i_s5_l14)] ⟨rfl, rfl, rfl, trivial⟩ (fun J => ?_)
     refine c_plain ?_
     refine x_u 3 [(59, Vi i_s5_l14), (60, Vi (IntKind.i64.wrap (i_s5_l14 + 1))), (5, Vi (IntKind.i64.wrap (i_s5_l14 + 1)))] ?_
     refine x_end rfl ?_
     have hx := some_inj h
     subst hx
     exact k_then ⟨(m14, false, IntKind.i64.wrap (i_s5_l14 + 1)), ⟨rfl, rfl, rfl, trivial⟩, ⟨hn14, hev, hms, hfr, hs_p0_0_1, hs_p0_1, hb3⟩, Nat.lt_succ_self _⟩
   refine x_u 16 [(63, undef), (64, undef), (65, undef), (66, undef), (67, undef), (68, undef), (69, .bool false), (70, .bool false), (71, undef), (72, undef), (73, undef), (74, undef), (75, undef), (76, undef), (77, .bool false), (3, .bool false)] ?_
   refine x_end rfl ?_
   refine k_block ?_
   refine k_then ?_
   refine c_norm [(1, Vp b3 0), (3, .bool false), (5, Vi i_s5_l14)] ⟨rfl, rfl, rfl, trivial⟩ (fun J => ?_)
   refine c_plain ?_
   refine x_u 3 [(59, Vi i_s5_l14), (60, Vi (IntKind.i64.wrap (i_s5_l14 + 1))), (5, Vi (IntKind.i64.wrap (i_s5_l14 + 1)))] ?_
   refine x_end rfl ?_
   have hx := some_inj h
   subst hx
   exact k_then ⟨(m14, false, IntKind.i64.wrap (i_s5_l14 + 1)), ⟨rfl, rfl, rfl, trivial⟩, ⟨hn14, hev, hms, hfr, hs_p0_0_1, hs_p0_1, hb3⟩, Nat.lt_succ_self _⟩
 refine c_exit ?_
 refine k_then_exit ?_
 have hx := some_inj h
 subst hx
 have hy := some_inj hn14
 subst hy
 replace h := h14
 refine k_then_exit ?_
 refine k_block_in ?_
 refine k_then ?_
 refine c_norm [(3, .bool ok_s3_l14)] ⟨rfl, trivial⟩ (fun J => ?_)
 refine c_seq ?_
 refine c_sp ?_
 refine x_u 2 [(78, .bool ok_s3_l14), (79, .bool (!ok_s3_l14))] ?_
 refine x_ek ?_
 refine c_if (!ok_s3_l14) rfl h (fun h => ?_) (fun h => ?_)
 · refine c_sp ?_
   refine x_u 1 [(2, Vi 2)] ?_
   refine x_ek ?_
   refine c_ret ?_
   refine k_then_ret ?_
   refine r_ret (r_vals [Vi 2] ⟨rfl, trivial⟩ ?_)
   have hx := some_inj h
   subst hx
   have hmr : MS wl14 [M] := hms.pick [some 1] _ rfl
   have hsu : ∀ x ∈ fl [M], x ∈ fl [[b3], M] := pick_sub [some 1] _ rfl
   exact ⟨rfl, hev⟩
 refine c_skip ?_
 refine k_then ?_
 refine c_sp ?_
 refine x_u 1 [(2, Vi 0)] ?_
 refine x_ek ?_
 refine c_ret ?_
 refine r_ret (r_vals [Vi 0] ⟨rfl, trivial⟩ ?_)
 have hx := some_inj h
 subst hx
 have hmr : MS wl14 [M] := hms.pick [some 1] _ rfl
 have hsu : ∀ x ∈ fl [M], x ∈ fl [[b3], M] := pick_sub [some 1] _ rfl
 exact ⟨rfl, hev⟩
def r15_Encode_L20 (p0_1 : List Int) (s : (List Int) × Int) : Option (Step ((List Int) × Int) (List Int)) :=
match s with
| (d9_l20, i_s7_l20) =>
(if (decide (i_s7_l20 < ((p0_1).length : Int))) = true then
((idx p0_1 i_s7_l20).bind fun x22 =>
(if d9_l20.length + ([IntKind.u8.wrap x22]).length ≤ 4294967296 then
some (.next ((d9_l20 ++ [IntKind.u8.wrap x22]), IntKind.i64.wrap (i_s7_l20 + 1)))
else none))
else
some (.done d9_l20))

def r15_Encode_L11 (p0_0_1 : List Int) (s : (List Int) × Int) : Option (Step ((List Int) × Int) (List Int)) :=
match s with
| (d9_l11, i_s6_l11) =>
(if (decide (i_s6_l11 < ((p0_0_1).length : Int))) = true then
((idx p0_0_1 i_s6_l11).bind fun x13 =>
((idx p0_0_1 i_s6_l11).bind fun x15 =>
(if d9_l11.length + ([IntKind.u8.wrap (IntKind.i64.wrap (Int.tdiv x13 256)), IntKind.u8.wrap (Int.tmod x15 256)]).length ≤ 4294967296 then
some (.next ((d9_l11 ++ [IntKind.u8.wrap (IntKind.i64.wrap (Int.tdiv x13 256)), IntKind.u8.wrap (Int.tmod x15 256)]), IntKind.i64.wrap (i_s6_l11 + 1)))
else none)))
else
some (.done d9_l11))

def r15_Encode (p0_0_0 : Int) (p0_0_1 : List Int) (p0_1 : List Int) : Option ((List Int) × Int) :=
((r15_valid p0_0_0 p0_0_1 p0_1).bind fun x6 =>
(if (x6 != 0) = true then
some ([], x6)
else
((loop (r15_Encode_L11 p0_0_1) (([IntKind.u8.wrap p0_0_0, IntKind.u8.wrap ((p0_0_1).length : Int)] : List Int), 0)).bind fun d => match d with
| d9_x11 => (if d9_x11.length + ([IntKind.u8.wrap ((p0_1).length : Int)]).length ≤ 4294967296 then
((loop (r15_Encode_L20 p0_1) ((d9_x11 ++ [IntKind.u8.wrap ((p0_1).length : Int)]), 0)).bind fun d => match d with
| d9_x20 => some (d9_x20, 0))
else none))))

theorem r15_Encode_w (p0_0_0 : Int) (a_p0_0_1 : Option Addr) (c_p0_0_1 : Nat) (p0_0_1 : List Int) (a_p0_1 : Option Addr) (c_p0_1 : Nat) (p0_1 : List Int) (r : (List Int) × Int) (w : World) (M : List Nat) (hms : MS w [M]) (hs_p0_0_1 : SlR (eInt .i64) w (fl [M]) a_p0_0_1 c_p0_0_1 p0_0_1) (hs_p0_1 : SlR (eInt .i64) w (fl [M]) a_p0_1 c_p0_1 p0_1) (h : r15_Encode p0_0_0 p0_0_1 p0_1 = some r) : CallVC Try.prog 23 [.agg #[Vi p0_0_0, Vl a_p0_0_1 p0_0_1 c_p0_0_1, Vl a_p0_1 p0_1 c_p0_1]] w fun v w' => ∃ (a0' : Option Addr), ∃ (c0' : Nat), v = .tuple #[Vl a0' r.1 c0', Vi r.2] ∧ Ev [] w w' ∧ MS w' [blk a0', M] ∧ FR w.heap.size [blk a0'] ∧ OwnS (eInt .u8) 5 w' (fl [blk a0', M]) a0' c0' r.1 := by
 refine calls_vc hmx Try.func23 (by kernel_rfl) rfl (rs := [.tmp 2, .tmp 3]) rfl (by kernel_rfl) (args := [.agg #[Vi p0_0_0, Vl a_p0_0_1 p0_0_1 c_p0_0_1, Vl a_p0_1 p0_1 c_p0_1]]) rfl ?_
 have hev : Ev [] w w := Ev.refl _ _
 have hfr : FR w.heap.size [] := FR.nil _
 refine c_sp ?_
 refine x_box (xv := .agg #[Vi p0_0_0, Vl a_p0_0_1 p0_0_1 c_p0_0_1, Vl a_p0_1 p0_1 c_p0_1]) rfl rfl rfl (fun b3 w3 hq3 hb3 he3 hz3 => ?_)
 replace hb3 : w3.heap[b3]? = some (.cells #[Vi p0_0_0, Vl a_p0_0_1 p0_0_1 c_p0_0_1, Vl a_p0_1 p0_1 c_p0_1] 29 (0, 0)) := hb3
 refine inl1 ?_
 have hst := Stp.box (ls := [M]) he3 hq3
 replace hs_p0_0_1 := hs_p0_0_1.step hst
 replace hs_p0_1 := hs_p0_1.step hst
 replace hms := hms.box he3 hq3 hb3
 replace hfr := hfr.box hev.size hq3
 replace hev := hev.ext he3
 refine x_u 2 [(2, .slice none 0 0), (3, Vi 0)] ?_
 refine x_ek ?_
 refine c_seq ?_
 refine c_sp ?_
 refine x_load (xv := Vp b3 0) (.agg #[Vi p0_0_0, Vl a_p0_0_1 p0_0_1 c_p0_0_1, Vl a_p0_1 p0_1 c_p0_1]) rfl rfl rfl (reads_boxagg 0 [Vi p0_0_0, Vl a_p0_0_1 p0_0_1 c_p0_0_1, Vl a_p0_1 p0_1 c_p0_1] tagg29 hb3 nn rfl) ?_
 obtain ⟨x6, hx, h⟩ := bind_some h
 have hpk : MS w3 ([] ++ [[b3], M]) := hms.pick [some 0, some 1] _ rfl
 have hsb0 : ∀ x ∈ fl ([] ++ [[b3], M]), x ∈ fl [[b3], M] := pick_sub [some 0, some 1] _ rfl
 have hsb : ∀ x ∈ fl ([] ++ [(fl [[b3], M])]), x ∈ fl [[b3], M] := fun x hx => hsb0 x (fl_unfold x hx)
 have hcall := r15_valid_w p0_0_0 a_p0_0_1 c_p0_0_1 p0_0_1 a_p0_1 c_p0_1 p0_1 _ w3 (fl [[b3], M]) (MS.fold (P := []) hpk) (hs_p0_0_1.sub hsb) (hs_p0_1.sub hsb) hx
 refine x_call 47 #[] #[] [.agg #[Vi p0_0_0, Vl a_p0_0_1 p0_0_1 c_p0_0_1, Vl a_p0_1 p0_1 c_p0_1]] _ rfl rfl rfl rfl hcall ?_
 rintro v w7 ⟨rfl, he7⟩
 clear hcall hx
 refine inl1 ?_
 have hst := Stp.ext (ls := [[b3], M]) he7
 replace hs_p0_0_1 := hs_p0_0_1.step hst
 replace hs_p0_1 := hs_p0_1.step hst
 replace hb3 := he7.box hb3 nn
 replace hms := hms.ev he7
 replace hev := hev.ext he7
 clear hpk hsb hsb0
 refine x_u 1 [(4, Vi x6)] ?_
 refine x_ek ?_
 refine c_sp ?_
 refine x_u 2 [(10, Vi x6), (11, .bool (x6 != 0))] ?_
 refine x_ek ?_
 refine c_if (x6 != 0) rfl h (fun h => ?_) (fun h => ?_)
 · refine c_sp ?_
   refine x_u 3 [(12, Vi x6), (2, .slice none 0 0), (3, Vi x6)] ?_
   refine x_ek ?_
   refine c_ret ?_
   refine k_then_ret ?_
   refine r_ret (r_vals [.slice none 0 0, Vi x6] ⟨rfl, rfl, trivial⟩ ?_)
   have hx := some_inj h
   subst hx
   have hmr : MS w7 [blk none, M] := hms.pick [none, some 1] _ rfl
   have hsu : ∀ x ∈ fl [blk none, M], x ∈ fl [[b3], M] := pick_sub [none, some 1] _ rfl
   have hfe : FR w.heap.size [blk none] := hfr.pick [none] _ rfl
   exact ⟨none, 0, rfl, hev, hmr, hfe, OwnS.nil _ _ _ _⟩
 refine c_skip ?_
 refine k_then ?_
 refine c_sp ?_
 refine x_fieldAddr (xv := Vp b3 0) (Vp b3 0) rfl rfl rfl (reads_field tfld29_0 _ _) ?_
 refine x_fieldAddr (xv := Vp b3 0) (Vp b3 0) rfl rfl rfl (reads_field tfld27_0 _ _) ?_
 refine x_load (xv := Vp b3 0) (Vi p0_0_0) rfl rfl rfl (reads_box tcell3 hb3 nn 0 _ rfl) ?_
 refine x_convert (.int .u8 (IntKind.u8.wrap p0_0_0)) _ rfl rfl rfl (tcv3_5 p0_0_0 _) ?_
 refine inl1 ?_
 refine x_fieldAddr (xv := Vp b3 0) (Vp b3 0) rfl rfl rfl (reads_field tfld29_0 _ _) ?_
 refine x_fieldAddr (xv := Vp b3 0) (Vp b3 1) rfl rfl rfl (reads_field tfld27_1 _ _) ?_
 refine x_load (xv := Vp b3 1) (Vl a_p0_0_1 p0_0_1 c_p0_0_1) rfl rfl rfl (reads_box tcell22 hb3 nn 1 _ rfl) ?_
 refine x_len (vs := [Vl a_p0_0_1 p0_0_1 c_p0_0_1]) (Vi ((p0_0_1).length : Int)) rfl rfl rfl (reads_len tsl22 _ _ _ _ _) ?_
 refine x_convert (.int .u8 (IntKind.u8.wrap ((p0_0_1).length : Int))) _ rfl rfl rfl (tcv3_5 ((p0_0_1).length : Int) _) ?_
 refine inl1 ?_
 refine x_buildSlice (vs := [(0, .int .u8 (IntKind.u8.wrap p0_0_0)), (1, .int .u8 (IntKind.u8.wrap ((p0_0_1).length : Int)))]) #[.int .u8 (IntKind.u8.wrap p0_0_0), .int .u8 (IntKind.u8.wrap ((p0_0_1).length : Int))] 5 rfl rfl rfl (by kernel_rfl) (fun b8 w8 hq8 hb8 he8 hz8 => ?_)
 refine inl1 ?_
 obtain ⟨a8, ea8⟩ : ∃ a, a = some (⟨b8, 0, none⟩ : Addr) := ⟨_, rfl⟩
 have hw8 : ∀ M, OwnS (eInt .u8) 5 w8 M a8 2 ([IntKind.u8.wrap p0_0_0, IntKind.u8.wrap ((p0_0_1).length : Int)] : List Int) := fun M => ea8 ▸ own_of_box hb8 (by decide) rfl rfl (cells_at (cs := [.int .u8 (IntKind.u8.wrap p0_0_0), .int .u8 (IntKind.u8.wrap ((p0_0_1).length : Int))]) (CellsOf.cons (c := [.int .u8 (IntKind.u8.wrap p0_0_0)]) rfl (CellsOf.cons (c := [.int .u8 (IntKind.u8.wrap ((p0_0_1).length : Int))]) rfl CellsOf.nil)))
 have hn8 : ∀ b ∈ blk a8, w7.heap.size ≤ b ∧ b < w8.heap.size := by subst ea8; intro b hb; simp only [blk, List.mem_singleton] at hb; subst hb; exact ⟨Nat.le_of_eq hq8.symm, lt_of_heap hb8⟩
 clear hb8
 have hst := Stp.push (ls := [[b3], M]) (l := blk a8) he8 (fun _ h => by cases h) (fun b hb => (hn8 b hb).1)
 replace hs_p0_0_1 := hs_p0_0_1.step hst
 replace hs_p0_1 := hs_p0_1.step hst
 replace hb3 := he8.box hb3 nn
 replace hms := hms.push he8 hn8
 replace hfr := hfr.push (fun b hb => Nat.le_trans hev.size (hn8 b hb).1)
 replace hev := hev.ext he8
 have ho8 := hw8 (fl [blk a8, [b3], M])
 clear hw8
 rw [← ea8]
 refine x_u 1 [(5, .slice a8 (([IntKind.u8.wrap p0_0_0, IntKind.u8.wrap ((p0_0_1).length : Int)] : List Int)).length 2)] ?_
 refine x_ek ?_
 refine c_norm [(1, Vp b3 0), (5, .slice a8 (([IntKind.u8.wrap p0_0_0, IntKind.u8.wrap ((p0_0_1).length : Int)] : List Int)).length 2)] ⟨rfl, rfl, trivial⟩ (fun J => ?_)
 refine c_seq ?_
 refine c_sp ?_
 refine x_u 1 [(6, Vi 0)] ?_
 refine x_ek ?_
 refine c_block ?_
 have hpk : MS w8 [[b3], blk a8, M] := hms.pick [some 1, some 0, some 2] _ rfl
 have hsu : ∀ x ∈ fl [[b3], blk a8, M], x ∈ fl [blk a8, [b3], M] := pick_sub [some 1, some 0, some 2] _ rfl
 replace hs_p0_0_1 := hs_p0_0_1.sub hsu
 replace hs_p0_1 := hs_p0_1.sub hsu
 replace ho8 := ho8.sub hsu
 replace hms := hpk
 replace hfr : FR w.heap.size [[b3], blk a8] := hfr.pick [some 1, some 0] _ rfl
 clear hpk hsu
 obtain ⟨d11, hd11, h11⟩ := bind_some h
 obtain ⟨m11, hd11⟩ := loop_some hd11
 refine c_loop (loop_rule hmx (σ := Nat × (List Int) × Int × Option Addr × Nat) (fun s => match s with | (_, d9_l11, i_s6_l11, a9_l11, c9_l11) => [(1, Vp b3 0), (5, Vl a9_l11 d9_l11 c9_l11), (6, Vi i_s6_l11)]) (fun s w' => match s with | (m, d9_l11, i_s6_l11, a9_l11, c9_l11) => loopN (r15_Encode_L11 p0_0_1) m (d9_l11, i_s6_l11) = some d11 ∧ Ev [] w w' ∧ MS w' [[b3], blk a9_l11, M] ∧ FR w.heap.size [[b3], blk a9_l11] ∧ SlR (eInt .i64) w' (fl [[b3], blk a9_l11, M]) a_p0_0_1 c_p0_0_1 p0_0_1 ∧ SlR (eInt .i64) w' (fl [[b3], blk a9_l11, M]) a_p0_1 c_p0_1 p0_1 ∧ w'.heap[b3]? = some (.cells #[Vi p0_0_0, Vl a_p0_0_1 p0_0_1 c_p0_0_1, Vl a_p0_1 p0_1 c_p0_1] 29 (0, 0)) ∧ OwnS (eInt .u8) 5 w' (fl [[b3], blk a9_l11, M]) a9_l11 c9_l11 d9_l11) (fun s => s.1) (m11, ([IntKind.u8.wrap p0_0_0, IntKind.u8.wrap ((p0_0_1).length : Int)] : List Int), 0, a8, 2) ⟨rfl, rfl, rfl, trivial⟩ ⟨hd11, hev, hms, hfr, hs_p0_0_1, hs_p0_1, hb3, ho8⟩ ?_)
 rintro ⟨m11, d9_l11, i_s6_l11, a9_l11, c9_l11⟩ J wl11 ⟨hn11, hev, hms, hfr, hs_p0_0_1, hs_p0_1, hb3, ho8⟩
 rcases m11 with _ | m11
 · exact (loopN_zero hn11).elim
 obtain ⟨t11, h, hn11⟩ := bind_some hn11
 refine c_seq ?_
 refine c_sp ?_
 refine x_u 1 [(23, Vi i_s6_l11)] ?_
 refine x_fieldAddr (xv := Vp b3 0) (Vp b3 0) rfl rfl rfl (reads_field tfld29_0 _ _) ?_
 refine x_fieldAddr (xv := Vp b3 0) (Vp b3 1) rfl rfl rfl (reads_field tfld27_1 _ _) ?_
 refine x_load (xv := Vp b3 1) (Vl a_p0_0_1 p0_0_1 c_p0_0_1) rfl rfl rfl (reads_box tcell22 hb3 nn 1 _ rfl) ?_
 refine x_len (vs := [Vl a_p0_0_1 p0_0_1 c_p0_0_1]) (Vi ((p0_0_1).length : Int)) rfl rfl rfl (reads_len tsl22 _ _ _ _ _) ?_
 refine x_u 1 [(28, .bool (decide (i_s6_l11 < ((p0_0_1).length : Int))))] ?_
 refine x_ek ?_
 refine c_norm [(1, Vp b3 0), (5, Vl a9_l11 d9_l11 c9_l11), (6, Vi i_s6_l11), (28, .bool (decide (i_s6_l11 < ((p0_0_1).length : Int))))] ⟨rfl, rfl, rfl, rfl, trivial⟩ (fun J => ?_)
 refine c_if (decide (i_s6_l11 < ((p0_0_1).length : Int))) rfl h (fun h => ?_) (fun h => ?_)
 · refine c_skip ?_
   refine k_then ?_
   refine c_seq ?_
   refine c_block ?_
   refine c_drawnp (blk a9_l11) [(0, false), (1, false), (2, false), (3, false), (4, false), (5, false), (6, false), (7, false), (9, false), (10, false), (11, false), (12, false), (13, false), (14, false), (15, false)] (.alt 8 false (opsThen [(16, false), (17, false), (18, false), (19, true)] .stop) (.alt 16 false (opsThen [(8, false), (17, false), (18, false), (19, true)] .stop) .none_)) _ (by kernel_rfl) rfl ?_
   have hst := Stp.ext (ls := [[b3], blk a9_l11, M]) (Ev.drew wl11)
   replace hb3 := (Ev.drew wl11).box hb3 nn
   replace hs_p0_0_1 := hs_p0_0_1.step hst
   replace hs_p0_1 := hs_p0_1.step hst
   replace ho8 := ho8.step hst (Ev.drew wl11) nn2
   replace hms := hms.ev (Ev.drew wl11)
   replace hev := hev.ext (Ev.drew wl11)
   refine x_u 1 [(31, Vl a9_l11 d9_l11 c9_l11)] ?_
   refine x_fieldAddr (xv := Vp b3 0) (Vp b3 0) rfl rfl rfl (reads_field tfld29_0 _ _) ?_
   refine x_fieldAddr (xv := Vp b3 0) (Vp b3 1) rfl rfl rfl (reads_field tfld27_1 _ _) ?_
   refine x_load (xv := Vp b3 1) (Vl a_p0_0_1 p0_0_1 c_p0_0_1) rfl rfl rfl (reads_box tcell22 hb3 ((hms.apart 0 1 rfl rfl rfl) _ mem1) 1 _ rfl) ?_
   refine x_u 1 [(35, Vi i_s6_l11)] ?_
   obtain ⟨x13, hx13, h⟩ := bind_some h
   obtain ⟨ad13, cs13, hr13, hc13, hR⟩ := reads_index (Mo := (blk a9_l11)) tsl22 hs_p0_0_1 hx13
   obtain rfl := hR
   refine x_indexAddr (xv := Vl a_p0_0_1 p0_0_1 c_p0_0_1) (yv := Vi i_s6_l11) (.pointer (some ad13)) rfl rfl rfl rfl hr13 ?_
   refine x_load (xv := .pointer (some ad13)) (Vi x13) rfl rfl rfl (reads_cell0 tcell3 hc13 (mem_flat 1 rfl)) ?_
   refine x_u 1 [(38, Vi (IntKind.i64.wrap (Int.tdiv x13 256)))] ?_
   refine x_fieldAddr (xv := Vp b3 0) (Vp b3 0) rfl rfl rfl (reads_field tfld29_0 _ _) ?_
   refine x_fieldAddr (xv := Vp b3 0) (Vp b3 1) rfl rfl rfl (reads_field tfld27_1 _ _) ?_
   refine x_load (xv := Vp b3 1) (Vl a_p0_0_1 p0_0_1 c_p0_0_1) rfl rfl rfl (reads_box tcell22 hb3 ((hms.apart 0 1 rfl rfl rfl) _ mem1) 1 _ rfl) ?_
   refine x_u 1 [(43, Vi i_s6_l11)] ?_
   obtain ⟨x15, hx15, h⟩ := bind_some h
   obtain ⟨ad15, cs15, hr15, hc15, hR⟩ := reads_index (Mo := (blk a9_l11)) tsl22 hs_p0_0_1 hx15
   obtain rfl := hR
   refine x_indexAddr (xv := Vl a_p0_0_1 p0_0_1 c_p0_0_1) (yv := Vi i_s6_l11) (.pointer (some ad15)) rfl rfl rfl rfl hr15 ?_
   refine x_load (xv := .pointer (some ad15)) (Vi x15) rfl rfl rfl (reads_cell0 tcell3 hc15 (mem_flat 1 rfl)) ?_
   refine x_u 1 [(46, Vi (Int.tmod x15 256))] ?_
   refine x_end rfl ?_
   refine t_alt _ rfl ?_ ?_
   · refine x_convert (.int .u8 (IntKind.u8.wrap (IntKind.i64.wrap (Int.tdiv x13 256)))) _ rfl rfl rfl (tcv3_5 (IntKind.i64.wrap (Int.tdiv x13 256)) _) ?_
     refine ⟨.inr (Ev.refl _ _), ?_⟩
     refine x_convert (.int .u8 (IntKind.u8.wrap (Int.tmod x15 256))) _ rfl rfl rfl (tcv3_5 (Int.tmod x15 256) _) ?_
     refine ⟨.inr (Ev.refl _ _), ?_⟩
     refine x_buildSlice (vs := [(0, .int .u8 (IntKind.u8.wrap (IntKind.i64.wrap (Int.tdiv x13 256)))), (1, .int .u8 (IntKind.u8.wrap (Int.tmod x15 256)))]) #[.int .u8 (IntKind.u8.wrap (IntKind.i64.wrap (Int.tdiv x13 256))), .int .u8 (IntKind.u8.wrap (Int.tmod x15 256))] 5 rfl rfl rfl (by kernel_rfl) (fun b17 w17 hq17 hb17 he17 hz17 => ?_)
     refine ⟨.inr (he17.nil), ?_⟩
     have hms0 := hms
     have hst := Stp.ext (ls := [[b3], blk a9_l11, M]) he17
     replace hb3 := he17.box hb3 nn
     replace hs_p0_0_1 := hs_p0_0_1.step hst
     replace hs_p0_1 := hs_p0_1.step hst
     replace ho8 := ho8.step hst he17 nn2
     replace hc13 := hc13.step hst
     replace hc15 := hc15.step hst
     replace hms := hms.ev he17
     replace hev := hev.ext he17
     have hs17 : SlR (eInt .u8) w17 (fl [[b3], blk a9_l11, M]) (Ad b17 0) 2 ([IntKind.u8.wrap (IntKind.i64.wrap (Int.tdiv x13 256)), IntKind.u8.wrap (Int.tmod x15 256)]) := ro_of_box hms0 hq17 hb17 rfl rfl (cells_at (cs := [.int .u8 (IntKind.u8.wrap (IntKind.i64.wrap (Int.tdiv x13 256))), .int .u8 (IntKind.u8.wrap (Int.tmod x15 256))]) (CellsOf.cons (c := [.int .u8 (IntKind.u8.wrap (IntKind.i64.wrap (Int.tdiv x13 256)))]) rfl (CellsOf.cons (c := [.int .u8 (IntKind.u8.wrap (Int.tmod x15 256))]) rfl CellsOf.nil)))
     clear hb17 hms0
     have hg := guard_l h
     replace h := guard_r h
     obtain ⟨a19, c19, w19, hr19, he19, hn19, hm19, hw19⟩ := own_appendN tel46 46 ho8 (mem_flat 1 rfl) hs17 hg
     refine x_builtin (vs := [Vl a9_l11 d9_l11 c9_l11, .slice (Ad b17 0) ([IntKind.u8.wrap (IntKind.i64.wrap (Int.tdiv x13 256)), IntKind.u8.wrap (Int.tmod x15 256)]).length 2]) _ w19 rfl rfl rfl rfl (run_value _ _ _ _ hr19) ?_
     refine ⟨.inr he19, ?_⟩
     have hst : Stp (fl [[b3], blk a9_l11, M]) w17 (fl [[b3], blk a19, M]) w19 := Stp.upd 1 he19 rfl (fun b hb => (hn19 b hb).1)
     replace hb3 := he19.box hb3 (hms.apart 0 1 rfl rfl rfl _ mem1)
     replace hs_p0_0_1 := hs_p0_0_1.step hst
     replace hs_p0_1 := hs_p0_1.step hst
     replace hc13 := hc13.step hst
     replace hc15 := hc15.step hst
     replace hs17 := hs17.step hst
     replace hms : MS w19 [[b3], blk a19, M] := hms.upd 1 he19 rfl hn19
     have hfr2 : FR w.heap.size [[b3], blk a19] := hfr.upd 1 rfl hev.size (fun b hb => (hn19 b hb).1)
     replace hev := hev.then he19 (fun b hb => .inr (hfr.at 1 rfl b hb))
     replace hfr := hfr2
     clear hfr2
     replace ho8 := hw19 (fl [[b3], blk a19, M]) hst.new
     clear hw19
     refine x_u 1 [(5, .slice a19 ((d9_l11 ++ [IntKind.u8.wrap (IntKind.i64.wrap (Int.tdiv x13 256)), IntKind.u8.wrap (Int.tmod x15 256)])).length c19)] ?_
     refine x_end rfl ?_
     refine t_stop ?_
     refine k_block ?_
     refine k_then ?_
     refine c_norm [(1, Vp b3 0), (5, .slice a19 ((d9_l11 ++ [IntKind.u8.wrap (IntKind.i64.wrap (Int.tdiv x13 256)), IntKind.u8.wrap (Int.tmod x15 256)])).length c19), (6, Vi i_s6_l11)] ⟨rfl, rfl, rfl, trivial⟩ (fun J => ?_)
     refine c_plain ?_
     refine x_u 3 [(29, Vi i_s6_l11), (30, Vi (IntKind.i64.wrap (i_s6_l11 + 1))), (6, Vi (IntKind.i64.wrap (i_s6_l11 + 1)))] ?_
     refine x_end rfl ?_
     have hx := some_inj h
     subst hx
     exact k_then ⟨(m11, (d9_l11 ++ [IntKind.u8.wrap (IntKind.i64.wrap (Int.tdiv x13 256)), IntKind.u8.wrap (Int.tmod x15 256)]), IntKind.i64.wrap (i_s6_l11 + 1), a19, c19), ⟨rfl, rfl, rfl, trivial⟩, ⟨hn11, hev, hms, hfr, hs_p0_0_1, hs_p0_1, hb3, ho8⟩, Nat.lt_succ_self _⟩
   refine t_alt _ rfl ?_ ?_
   · refine x_convert (.int .u8 (IntKind.u8.wrap (Int.tmod x15 256))) _ rfl rfl rfl (tcv3_5 (Int.tmod x15 256) _) ?_
     refine ⟨.inr (Ev.refl _ _), ?_⟩
     refine x_convert (.int .u8 (IntKind.u8.wrap (IntKind.i64.wrap (Int.tdiv x13 256)))) _ rfl rfl rfl (tcv3_5 (IntKind.i64.wrap (Int.tdiv x13 256)) _) ?_
     refine ⟨.inr (Ev.refl _ _), ?_⟩
     refine x_buildSlice (vs := [(0, .int .u8 (IntKind.u8.wrap (IntKind.i64.wrap (Int.tdiv x13 256)))), (1, .int .u8 (IntKind.u8.wrap (Int.tmod x15 256)))]) #[.int .u8 (IntKind.u8.wrap (IntKind.i64.wrap (Int.tdiv x13 256))), .int .u8 (IntKind.u8.wrap (Int.tmod x15 256))] 5 rfl rfl rfl (by kernel_rfl) (fun b17 w17 hq17 hb17 he17 hz17 => ?_)
     refine ⟨.inr (he17.nil), ?_⟩
     have hms0 := hms
     have hst := Stp.ext (ls := [[b3], blk a9_l11, M]) he17
     replace hb3 := he17.box hb3 nn
     replace hs_p0_0_1 := hs_p0_0_1.step hst
     replace hs_p0_1 := hs_p0_1.step hst
     replace ho8 := ho8.step hst he17 nn2
     replace hc13 := hc13.step hst
     replace hc15 := hc15.step hst
     replace hms := hms.ev he17
     replace hev := hev.ext he17
     have hs17 : SlR (eInt .u8) w17 (fl [[b3], blk a9_l11, M]) (Ad b17 0) 2 ([IntKind.u8.wrap (IntKind.i64.wrap (Int.tdiv x13 256)), IntKind.u8.wrap (Int.tmod x15 256)]) := ro_of_box hms0 hq17 hb17 rfl rfl (cells_at (cs := [.int .u8 (IntKind.u8.wrap (IntKind.i64.wrap (Int.tdiv x13 256))), .int .u8 (IntKind.u8.wrap (Int.tmod x15 256))]) (CellsOf.cons (c := [.int .u8 (IntKind.u8.wrap (IntKind.i64.wrap (Int.tdiv x13 256)))]) rfl (CellsOf.cons (c := [.int .u8 (IntKind.u8.wrap (Int.tmod x15 256))]) rfl CellsOf.nil)))
     clear hb17 hms0
     have hg := guard_l h
     replace h := guard_r h
     obtain ⟨a19, c19, w19, hr19, he19, hn19, hm19, hw19⟩ := own_appendN tel46 46 ho8 (mem_flat 1 rfl) hs17 hg
     refine x_builtin (vs := [Vl a9_l11 d9_l11 c9_l11, .slice (Ad b17 0) ([IntKind.u8.wrap (IntKind.i64.wrap (Int.tdiv x13 256)), IntKind.u8.wrap (Int.tmod x15 256)]).length 2]) _ w19 rfl rfl rfl rfl (run_value _ _ _ _ hr19) ?_
     refine ⟨.inr he19, ?_⟩
     have hst : Stp (fl [[b3], blk a9_l11, M]) w17 (fl [[b3], blk a19, M]) w19 := Stp.upd 1 he19 rfl (fun b hb => (hn19 b hb).1)
     replace hb3 := he19.box hb3 (hms.apart 0 1 rfl rfl rfl _ mem1)
     replace hs_p0_0_1 := hs_p0_0_1.step hst
     replace hs_p0_1 := hs_p0_1.step hst
     replace hc13 := hc13.step hst
     replace hc15 := hc15.step hst
     replace hs17 := hs17.step hst
     replace hms : MS w19 [[b3], blk a19, M] := hms.upd 1 he19 rfl hn19
     have hfr2 : FR w.heap.size [[b3], blk a19] := hfr.upd 1 rfl hev.size (fun b hb => (hn19 b hb).1)
     replace hev := hev.then he19 (fun b hb => .inr (hfr.at 1 rfl b hb))
     replace hfr := hfr2
     clear hfr2
     replace ho8 := hw19 (fl [[b3], blk a19, M]) hst.new
     clear hw19
     refine x_u 1 [(5, .slice a19 ((d9_l11 ++ [IntKind.u8.wrap (IntKind.i64.wrap (Int.tdiv x13 256)), IntKind.u8.wrap (Int.tmod x15 256)])).length c19)] ?_
     refine x_end rfl ?_
     refine t_stop ?_
     refine k_block ?_
     refine k_then ?_
     refine c_norm [(1, Vp b3 0), (5, .slice a19 ((d9_l11 ++ [IntKind.u8.wrap (IntKind.i64.wrap (Int.tdiv x13 256)), IntKind.u8.wrap (Int.tmod x15 256)])).length c19), (6, Vi i_s6_l11)] ⟨rfl, rfl, rfl, trivial⟩ (fun J => ?_)
     refine c_plain ?_
     refine x_u 3 [(29, Vi i_s6_l11), (30, Vi (IntKind.i64.wrap (i_s6_l11 + 1))), (6, Vi (IntKind.i64.wrap (i_s6_l11 + 1)))] ?_
     refine x_end rfl ?_
     have hx := some_inj h
     subst hx
     exact k_then ⟨(m11, (d9_l11 ++ [IntKind.u8.wrap (IntKind.i64.wrap (Int.tdiv x13 256)), IntKind.u8.wrap (Int.tmod x15 256)]), IntKind.i64.wrap (i_s6_l11 + 1), a19, c19), ⟨rfl, rfl, rfl, trivial⟩, ⟨hn11, hev, hms, hfr, hs_p0_0_1, hs_p0_1, hb3, ho8⟩, Nat.lt_succ_self _⟩
   exact t_none
 refine c_exit ?_
 refine k_then_exit ?_
 have hx := some_inj h
 subst hx
 have hy := some_inj hn11
 subst hy
 replace h := h11
 refine k_then_exit ?_
 refine k_block_in ?_
 refine k_then ?_
 refine c_norm [(1, Vp b3 0), (5, Vl a9_l11 d9_l11 c9_l11)] ⟨rfl, rfl, trivial⟩ (fun J => ?_)
 refine c_sp ?_
 refine x_u 1 [(50, Vl a9_l11 d9_l11 c9_l11)] ?_
 refine x_fieldAddr (xv := Vp b3 0) (Vp b3 2) rfl rfl rfl (reads_field tfld29_1 _ _) ?_
 refine x_load (xv := Vp b3 2) (Vl a_p0_1 p0_1 c_p0_1) rfl rfl rfl (reads_box tcell22 hb3 nn 2 _ rfl) ?_
 refine x_len (vs := [Vl a_p0_1 p0_1 c_p0_1]) (Vi ((p0_1).length : Int)) rfl rfl rfl (reads_len tsl22 _ _ _ _ _) ?_
 refine x_convert (.int .u8 (IntKind.u8.wrap ((p0_1).length : Int))) _ rfl rfl rfl (tcv3_5 ((p0_1).length : Int) _) ?_
 refine inl1 ?_
 refine x_buildSlice (vs := [(0, .int .u8 (IntKind.u8.wrap ((p0_1).length : Int)))]) #[.int .u8 (IntKind.u8.wrap ((p0_1).length : Int))] 5 rfl rfl rfl (by kernel_rfl) (fun b17 w17 hq17 hb17 he17 hz17 => ?_)
 refine inl1 ?_
 have hms0 := hms
 have hst := Stp.ext (ls := [[b3], blk a9_l11, M]) he17
 replace hb3 := he17.box hb3 nn
 replace hs_p0_0_1 := hs_p0_0_1.step hst
 replace hs_p0_1 := hs_p0_1.step hst
 replace ho8 := ho8.step hst he17 nn2
 replace hms := hms.ev he17
 replace hev := hev.ext he17
 have hs17 : SlR (eInt .u8) w17 (fl [[b3], blk a9_l11, M]) (Ad b17 0) 1 ([IntKind.u8.wrap ((p0_1).length : Int)]) := ro_of_box hms0 hq17 hb17 rfl rfl (cells_at (cs := [.int .u8 (IntKind.u8.wrap ((p0_1).length : Int))]) (CellsOf.cons (c := [.int .u8 (IntKind.u8.wrap ((p0_1).length : Int))]) rfl CellsOf.nil))
 clear hb17 hms0
 have hg := guard_l h
 replace h := guard_r h
 obtain ⟨a19, c19, w19, hr19, he19, hn19, hm19, hw19⟩ := own_appendN tel46 46 ho8 (mem_flat 1 rfl) hs17 hg
 refine x_builtin (vs := [Vl a9_l11 d9_l11 c9_l11, .slice (Ad b17 0) ([IntKind.u8.wrap ((p0_1).length : Int)]).length 1]) _ w19 rfl rfl rfl rfl (run_value _ _ _ _ hr19) ?_
 refine inl1 ?_
 have hst : Stp (fl [[b3], blk a9_l11, M]) w17 (fl [[b3], blk a19, M]) w19 := Stp.upd 1 he19 rfl (fun b hb => (hn19 b hb).1)
 replace hb3 := he19.box hb3 (hms.apart 0 1 rfl rfl rfl _ mem1)
 replace hs_p0_0_1 := hs_p0_0_1.step hst
 replace hs_p0_1 := hs_p0_1.step hst
 replace hs17 := hs17.step hst
 replace hms : MS w19 [[b3], blk a19, M] := hms.upd 1 he19 rfl hn19
 have hfr2 : FR w.heap.size [[b3], blk a19] := hfr.upd 1 rfl hev.size (fun b hb => (hn19 b hb).1)
 replace hev := hev.then he19 (fun b hb => .inr (hfr.at 1 rfl b hb))
 replace hfr := hfr2
 clear hfr2
 replace ho8 := hw19 (fl [[b3], blk a19, M]) hst.new
 clear hw19
 refine x_u 1 [(5, .slice a19 ((d9_l11 ++ [IntKind.u8.wrap ((p0_1).length : Int)])).length c19)] ?_
 refine x_ek ?_
 refine c_seq ?_
 refine c_sp ?_
 refine x_u 1 [(7, Vi 0)] ?_
 refine x_ek ?_
 refine c_block ?_
 obtain ⟨d20, hd20, h20⟩ := bind_some h
 obtain ⟨m20, hd20⟩ := loop_some hd20
 refine c_loop (loop_rule hmx (σ := Nat × (List Int) × Int × Option Addr × Nat) (fun s => match s with | (_, d9_l20, i_s7_l20, a9_l20, c9_l20) => [(1, Vp b3 0), (5, Vl a9_l20 d9_l20 c9_l20), (7, Vi i_s7_l20)]) (fun s w' => match s with | (m, d9_l20, i_s7_l20, a9_l20, c9_l20) => loopN (r15_Encode_L20 p0_1) m (d9_l20, i_s7_l20) = some d20 ∧ Ev [] w w' ∧ MS w' [[b3], blk a9_l20, M] ∧ FR w.heap.size [[b3], blk a9_l20] ∧ SlR (eInt .i64) w' (fl [[b3], blk a9_l20, M]) a_p0_0_1 c_p0_0_1 p0_0_1 ∧ SlR (eInt .i64) w' (fl [[b3], blk a9_l20, M]) a_p0_1 c_p0_1 p0_1 ∧ w'.heap[b3]? = some (.cells #[Vi p0_0_0, Vl a_p0_0_1 p0_0_1 c_p0_0_1, Vl a_p0_1 p0_1 c_p0_1] 29 (0, 0)) ∧ OwnS (eInt .u8) 5 w' (fl [[b3], blk a9_l20, M]) a9_l20 c9_l20 d9_l20) (fun s => s.1) (m20, (d9_l11 ++ [IntKind.u8.wrap ((p0_1).length : Int)]), 0, a19, c19) ⟨rfl, rfl, rfl, trivial⟩ ⟨hd20, hev, hms, hfr, hs_p0_0_1, hs_p0_1, hb3, ho8⟩ ?_)
 rintro ⟨m20, d9_l20, i_s7_l20, a9_l20, c9_l20⟩ J wl20 ⟨hn20, hev, hms, hfr, hs_p0_0_1, hs_p0_1, hb3, ho8⟩
 rcases m20 with _ | m20
 · exact (loopN_zero hn20).elim
 obtain ⟨t20, h, hn20⟩ := bind_some hn20
 refine c_seq ?_
 refine c_sp ?_
 refine x_u 1 [(57, Vi i_s7_l20)] ?_
 refine x_fieldAddr (xv := Vp b3 0) (Vp b3 2) rfl rfl rfl (reads_field tfld29_1 _ _) ?_
 refine x_load (xv := Vp b3 2) (Vl a_p0_1 p0_1 c_p0_1) rfl rfl rfl (reads_box tcell22 hb3 nn 2 _ rfl) ?_
 refine x_len (vs := [Vl a_p0_1 p0_1 c_p0_1]) (Vi ((p0_1).length : Int)) rfl rfl rfl (reads_len tsl22 _ _ _ _ _) ?_
 refine x_u 1 [(61, .bool (decide (i_s7_l20 < ((p0_1).length : Int))))] ?_
 refine x_ek ?_
 refine c_norm [(1, Vp b3 0), (5, Vl a9_l20 d9_l20 c9_l20), (7, Vi i_s7_l20), (61, .bool (decide (i_s7_l20 < ((p0_1).length : Int))))] ⟨rfl, rfl, rfl, rfl, trivial⟩ (fun J => ?_)
 refine c_if (decide (i_s7_l20 < ((p0_1).length : Int))) rfl h (fun h => ?_) (fun h => ?_)
 · refine c_skip ?_
   refine k_then ?_
   refine c_seq ?_
   refine c_block ?_
   refine c_plain ?_
   refine x_u 1 [(64, Vl a9_l20 d9_l20 c9_l20)] ?_
   refine x_fieldAddr (xv := Vp b3 0) (Vp b3 2) rfl rfl rfl (reads_field tfld29_1 _ _) ?_
   refine x_load (xv := Vp b3 2) (Vl a_p0_1 p0_1 c_p0_1) rfl rfl rfl (reads_box tcell22 hb3 nn 2 _ rfl) ?_
   refine x_u 1 [(67, Vi i_s7_l20)] ?_
   obtain ⟨x22, hx22, h⟩ := bind_some h
   obtain ⟨ad22, cs22, hr22, hc22, hR⟩ := reads_index (Mo := []) tsl22 hs_p0_1 hx22
   obtain rfl := hR
   refine x_indexAddr (xv := Vl a_p0_1 p0_1 c_p0_1) (yv := Vi i_s7_l20) (.pointer (some ad22)) rfl rfl rfl rfl hr22 ?_
   refine x_load (xv := .pointer (some ad22)) (Vi x22) rfl rfl rfl (reads_cell0 tcell3 hc22 (fun _ h => by cases h)) ?_
   refine x_convert (.int .u8 (IntKind.u8.wrap x22)) _ rfl rfl rfl (tcv3_5 x22 _) ?_
   refine inl1 ?_
   refine x_buildSlice (vs := [(0, .int .u8 (IntKind.u8.wrap x22))]) #[.int .u8 (IntKind.u8.wrap x22)] 5 rfl rfl rfl (by kernel_rfl) (fun b24 w24 hq24 hb24 he24 hz24 => ?_)
   refine inl1 ?_
   have hms0 := hms
   have hst := Stp.ext (ls := [[b3], blk a9_l20, M]) he24
   replace hb3 := he24.box hb3 nn
   replace hs_p0_0_1 := hs_p0_0_1.step hst
   replace hs_p0_1 := hs_p0_1.step hst
   replace ho8 := ho8.step hst he24 nn2
   replace hc22 := hc22.step hst
   replace hms := hms.ev he24
   replace hev := hev.ext he24
   have hs24 : SlR (eInt .u8) w24 (fl [[b3], blk a9_l20, M]) (Ad b24 0) 1 ([IntKind.u8.wrap x22]) := ro_of_box hms0 hq24 hb24 rfl rfl (cells_at (cs := [.int .u8 (IntKind.u8.wrap x22)]) (CellsOf.cons (c := [.int .u8 (IntKind.u8.wrap x22)]) rfl CellsOf.nil))
   clear hb24 hms0
   have hg := guard_l h
   replace h := guard_r h
   obtain ⟨a26, c26, w26, hr26, he26, hn26, hm26, hw26⟩ := own_appendN tel46 46 ho8 (mem_flat 1 rfl) hs24 hg
   refine x_builtin (vs := [Vl a9_l20 d9_l20 c9_l20, .slice (Ad b24 0) ([IntKind.u8.wrap x22]).length 1]) _ w26 rfl rfl rfl rfl (run_value _ _ _ _ hr26) ?_
   refine inl1 ?_
   have hst : Stp (fl [[b3], blk a9_l20, M]) w24 (fl [[b3], blk a26, M]) w26 := Stp.upd 1 he26 rfl (fun b hb => (hn26 b hb).1)
   replace hb3 := he26.box hb3 (hms.apart 0 1 rfl rfl rfl _ mem1)
   replace hs_p0_0_1 := hs_p0_0_1.step hst
   replace hs_p0_1 := hs_p0_1.step hst
   replace hc22 := hc22.step hst
   replace hs24 := hs24.step hst
   replace hms : MS w26 [[b3], blk a26, M] := hms.upd 1 he26 rfl hn26
   have hfr2 : FR w.heap.size [[b3], blk a26] := hfr.upd 1 rfl hev.size (fun b hb => (hn26 b hb).1)
   replace hev := hev.then he26 (fun b hb => .inr (hfr.at 1 rfl b hb))
   replace hfr := hfr2
   clear hfr2
   replace ho8 := hw26 (fl [[b3], blk a26, M]) hst.new
   clear hw26
   refine x_u 1 [(5, .slice a26 ((d9_l20 ++ [IntKind.u8.wrap x22])).length c26)] ?_
   refine x_end rfl ?_
   refine k_block ?_
   refine k_then ?_
   refine c_plain ?_
   refine x_u 3 [(62, Vi i_s7_l20), (63, Vi (IntKind.i64.wrap (i_s7_l20 + 1))), (7, Vi (IntKind.i64.wrap (i_s7_l20 + 1)))] ?_
   refine x_end rfl ?_
   have hx := some_inj h
   subst hx
   exact k_then ⟨(m20, (d9_l20 ++ [IntKind.u8.wrap x22]), IntKind.i64.wrap (i_s7_l20 + 1), a26, c26), ⟨rfl, rfl, rfl, trivial⟩, ⟨hn20, hev, hms, hfr, hs_p0_0_1, hs_p0_1, hb3, ho8⟩, Nat.lt_succ_self _⟩
 refine c_exit ?_
 refine k_then_exit ?_
 have hx := some_inj h
 subst hx
 have hy := some_inj hn20
 subst hy
 replace h := h20
 refine k_then_exit ?_
 refine k_block_in ?_
 refine k_then ?_
 refine c_norm [(5, Vl a9_l20 d9_l20 c9_l20)] ⟨rfl, trivial⟩ (fun J => ?_)
 refine c_sp ?_
 refine x_u 3 [(73, Vl a9_l20 d9_l20 c9_l20), (2, Vl a9_l20 d9_l20 c9_l20), (3, Vi 0)] ?_
 refine x_ek ?_
 refine c_ret ?_
 refine r_ret (r_vals [Vl a9_l20 d9_l20 c9_l20, Vi 0] ⟨rfl, rfl, trivial⟩ ?_)
 have hx := some_inj h
 subst hx
 have hmr : MS wl20 [blk a9_l20, M] := hms.pick [some 1, some 2] _ rfl
 have hsu : ∀ x ∈ fl [blk a9_l20, M], x ∈ fl [[b3], blk a9_l20, M] := pick_sub [some 1, some 2] _ rfl
 have hfe : FR w.heap.size [blk a9_l20] := hfr.pick [some 1] _ rfl
 exact ⟨a9_l20, c9_l20, rfl, hev, hmr, hfe, ho8.sub hsu⟩
def r15_Decode_L32 (p0 : List Int) (x9 : Int) (x11 : Int) (s : (List Int) × Int) : Option (Step ((List Int) × Int) (List Int)) :=
match s with
| (d34_l32, i_s8_l32) =>
(if (decide (i_s8_l32 < (IntKind.i64.wrap ((IntKind.i64.wrap (3 + (IntKind.i64.wrap (2 * (IntKind.i64.wrap x9))))) + (IntKind.i64.wrap x11))))) = true then
((idx p0 i_s8_l32).bind fun x36 =>
(if d34_l32.length + ([IntKind.i64.wrap x36]).length ≤ 4294967296 then
some (.next ((d34_l32 ++ [IntKind.i64.wrap x36]), IntKind.i64.wrap (i_s8_l32 + 1)))
else none))
else
some (.done d34_l32))

def r15_Decode_L23 (p0 : List Int) (x9 : Int) (s : (List Int) × Int) : Option (Step ((List Int) × Int) (List Int)) :=
match s with
| (d25_l23, i_s7_l23) =>
(if (decide (i_s7_l23 < (IntKind.i64.wrap x9))) = true then
((idx p0 (IntKind.i64.wrap (2 + (IntKind.i64.wrap (2 * i_s7_l23))))).bind fun x27 =>
((idx p0 (IntKind.i64.wrap (3 + (IntKind.i64.wrap (2 * i_s7_l23))))).bind fun x29 =>
(if d25_l23.length + ([IntKind.i64.wrap ((IntKind.i64.wrap ((IntKind.i64.wrap x27) * 256)) + (IntKind.i64.wrap x29))]).length ≤ 4294967296 then
some (.next ((d25_l23 ++ [IntKind.i64.wrap ((IntKind.i64.wrap ((IntKind.i64.wrap x27) * 256)) + (IntKind.i64.wrap x29))]), IntKind.i64.wrap (i_s7_l23 + 1)))
else none)))
else
some (.done d25_l23))

def r15_Decode (p0 : List Int) : Option (((Int × (List Int)) × (List Int)) × Int) :=
(if (decide (((p0).length : Int) < 2)) = true then
some (((0, []), []), 10)
else
((idx p0 1).bind fun x6 =>
(if (decide (((p0).length : Int) < (IntKind.i64.wrap (3 + (IntKind.i64.wrap (2 * (IntKind.i64.wrap x6))))))) = true then
some (((0, []), []), 10)
else
((idx p0 1).bind fun x9 =>
((idx p0 (IntKind.i64.wrap (2 + (IntKind.i64.wrap (2 * (IntKind.i64.wrap x9)))))).bind fun x11 =>
(if (decide (((p0).length : Int) < (IntKind.i64.wrap ((IntKind.i64.wrap (3 + (IntKind.i64.wrap (2 * (IntKind.i64.wrap x9))))) + (IntKind.i64.wrap x11))))) = true then
some (((0, []), []), 10)
else
(if (decide (((p0).length : Int) > (IntKind.i64.wrap ((IntKind.i64.wrap (3 + (IntKind.i64.wrap (2 * (IntKind.i64.wrap x9))))) + (IntKind.i64.wrap x11))))) = true then
some (((0, []), []), 11)
else
((idx p0 0).bind fun x17 =>
((loop (r15_Decode_L23 p0 x9) (([] : List Int), 0)).bind fun d => match d with
| d25_x23 => ((loop (r15_Decode_L32 p0 x9 x11) (([] : List Int), IntKind.i64.wrap (3 + (IntKind.i64.wrap (2 * (IntKind.i64.wrap x9)))))).bind fun d => match d with
| d34_x32 => ((r15_valid (IntKind.i64.wrap x17) d25_x23 d34_x32).bind fun x42 =>
(if (x42 != 0) = true then
some (((0, []), []), x42)
else
some (((IntKind.i64.wrap x17, d25_x23), d34_x32), 0)))))))))))))

theorem r15_Decode_w (a_p0 : Option Addr) (c_p0 : Nat) (p0 : List Int) (r : ((Int × (List Int)) × (List Int)) × Int) (w : World) (M : List Nat) (hms : MS w [M]) (hs_p0 : SlR (eInt .u8) w (fl [M]) a_p0 c_p0 p0) (h : r15_Decode p0 = some r) : CallVC Try.prog 26 [Vl a_p0 p0 c_p0] w fun v w' => ∃ (a0' : Option Addr), ∃ (c0' : Nat), ∃ (a2' : Option Addr), ∃ (c2' : Nat), v = .tuple #[.agg #[Vi r.1.1.1, Vl a0' r.1.1.2 c0', Vl a2' r.1.2 c2'], Vi r.2] ∧ Ev [] w w' ∧ MS w' [blk a0', blk a2', M] ∧ FR w.heap.size [blk a0', blk a2'] ∧ OwnS (eInt .i64) 3 w' (fl [blk a0', blk a2', M]) a0' c0' r.1.1.2 ∧ OwnS (eInt .i64) 3 w' (fl [blk a0', blk a2', M]) a2' c2' r.1.2 := by
 refine calls_vc hmx Try.func26 (by kernel_rfl) rfl (rs := [.cell 2 29, .tmp 3]) rfl (by kernel_rfl) (args := [Vl a_p0 p0 c_p0]) rfl ?_
 have hev : Ev [] w w := Ev.refl _ _
 have hfr : FR w.heap.size [] := FR.nil _
 refine c_sp ?_
 refine x_alloc (z := .agg #[Vi 0, .slice none 0 0, .slice none 0 0]) rfl rfl (by kernel_rfl) (fun b2 w2 hq2 hb2 he2 hz2 => ?_)
 replace hb2 : w2.heap[b2]? = some (.cells #[Vi 0, .slice none 0 0, .slice none 0 0] 29 (0, 0)) := hb2
 refine inl1 ?_
 have hst := Stp.box (ls := [M]) he2 hq2
 replace hs_p0 := hs_p0.step hst
 replace hms := hms.box he2 hq2 hb2
 replace hfr := hfr.box hev.size hq2
 replace hev := hev.ext he2
 refine x_u 1 [(3, Vi 0)] ?_
 refine x_ek ?_
 refine c_seq ?_
 refine c_sp ?_
 refine x_u 1 [(10, Vl a_p0 p0 c_p0)] ?_
 refine x_len (vs := [Vl a_p0 p0 c_p0]) (Vi ((p0).length : Int)) rfl rfl rfl (reads_len tsl46 _ _ _ _ _) ?_
 refine x_u 2 [(12, .bool (decide (((p0).length : Int) < 2))), (13, .bool (decide (((p0).length : Int) < 2)))] ?_
 refine x_if 13 (decide (((p0).length : Int) < 2)) rfl h (fun h => ?_) (fun h => ?_)
 · refine x_u 10 [(14, undef), (15, undef), (16, undef), (17, undef), (18, undef), (19, undef), (20, undef), (21, undef), (22, undef), (23, .bool true)] ?_
   refine x_ek ?_
   refine c_norm [(0, Vl a_p0 p0 c_p0), (2, Vp b2 0), (23, .bool true)] ⟨rfl, rfl, rfl, trivial⟩ (fun J => ?_)
   refine c_true rfl ?_
   refine c_sp ?_
   refine x_build (vs := []) (.agg #[Vi 0, .slice none 0 0, .slice none 0 0]) rfl rfl rfl (fun _ _ => by kernel_rfl) ?_
   obtain ⟨w5, hr5, hb5, he5⟩ := store_boxagg 0 [Vi 0, .slice none 0 0, .slice none 0 0] #[Vi 0, .slice none 0 0, .slice none 0 0] tagg29 hb2 rfl rfl rfl
   refine x_store w5 (xv := Vp b2 0) (yv := .agg #[Vi 0, .slice none 0 0, .slice none 0 0]) rfl rfl rfl rfl hr5 ?_
   refine inl1 ?_
   have hst := Stp.ev' (ls := [[b2], M]) he5 (mem_flat 0 rfl)
   replace hs_p0 := hs_p0.step hst
   replace hms := hms.ev he5
   replace hev := hev.then he5 (fun b hb => .inr (hfr.at 0 rfl b hb))
   replace hb2 := hb5
   refine x_u 1 [(3, Vi 10)] ?_
   refine x_ek ?_
   refine c_ret ?_
   refine k_then_ret ?_
   refine r_ret (r_vals [.agg #[Vi 0, .slice none 0 0, .slice none 0 0], Vi 10] ⟨⟨_, rfl, loadVar_of_reads (reads_boxagg (Mo := []) 0 [Vi 0, .slice none 0 0, .slice none 0 0] tagg29 hb2 nn rfl)⟩, rfl, trivial⟩ ?_)
   have hx := some_inj h
   subst hx
   have hmr : MS w5 [blk none, blk none, M] := hms.pick [none, none, some 1] _ rfl
   have hsu : ∀ x ∈ fl [blk none, blk none, M], x ∈ fl [[b2], M] := pick_sub [none, none, some 1] _ rfl
   have hfe : FR w.heap.size [blk none, blk none] := hfr.pick [none, none] _ rfl
   exact ⟨none, 0, none, 0, rfl, hev, hmr, hfe, OwnS.nil _ _ _ _, OwnS.nil _ _ _ _⟩
 refine x_u 1 [(14, Vl a_p0 p0 c_p0)] ?_
 refine x_len (vs := [Vl a_p0 p0 c_p0]) (Vi ((p0).length : Int)) rfl rfl rfl (reads_len tsl46 _ _ _ _ _) ?_
 refine x_u 1 [(16, Vl a_p0 p0 c_p0)] ?_
 obtain ⟨x6, hx6, h⟩ := bind_some h
 obtain ⟨ad6, cs6, hr6, hc6, hR⟩ := reads_index (Mo := []) tsl46 hs_p0 hx6
 obtain rfl := hR
 refine x_indexAddr (xv := Vl a_p0 p0 c_p0) (yv := Vi 1) (.pointer (some ad6)) rfl rfl rfl rfl hr6 ?_
 refine x_load (xv := .pointer (some ad6)) (.int .u8 x6) rfl rfl rfl (reads_cell0 tcell5 hc6 (fun _ h => by cases h)) ?_
 refine x_convert (Vi (IntKind.i64.wrap x6)) _ rfl rfl rfl (tcv5_3 x6 _) ?_
 refine inl1 ?_
 refine x_u 4 [(20, Vi (IntKind.i64.wrap (2 * (IntKind.i64.wrap x6)))), (21, Vi (IntKind.i64.wrap (3 + (IntKind.i64.wrap (2 * (IntKind.i64.wrap x6)))))), (22, .bool (decide (((p0).length : Int) < (IntKind.i64.wrap (3 + (IntKind.i64.wrap (2 * (IntKind.i64.wrap x6)))))))), (23, .bool (decide (((p0).length : Int) < (IntKind.i64.wrap (3 + (IntKind.i64.wrap (2 * (IntKind.i64.wrap x6))))))))] ?_
 refine x_ek ?_
 refine c_norm [(0, Vl a_p0 p0 c_p0), (2, Vp b2 0), (23, .bool (decide (((p0).length : Int) < (IntKind.i64.wrap (3 + (IntKind.i64.wrap (2 * (IntKind.i64.wrap x6))))))))] ⟨rfl, rfl, rfl, trivial⟩ (fun J => ?_)
 refine c_if (decide (((p0).length : Int) < (IntKind.i64.wrap (3 + (IntKind.i64.wrap (2 * (IntKind.i64.wrap x6))))))) rfl h (fun h => ?_) (fun h => ?_)
 · refine c_sp ?_
   refine x_build (vs := []) (.agg #[Vi 0, .slice none 0 0, .slice none 0 0]) rfl rfl rfl (fun _ _ => by kernel_rfl) ?_
   obtain ⟨w8, hr8, hb8, he8⟩ := store_boxagg 0 [Vi 0, .slice none 0 0, .slice none 0 0] #[Vi 0, .slice none 0 0, .slice none 0 0] tagg29 hb2 rfl rfl rfl
   refine x_store w8 (xv := Vp b2 0) (yv := .agg #[Vi 0, .slice none 0 0, .slice none 0 0]) rfl rfl rfl rfl hr8 ?_
   refine inl1 ?_
   have hst := Stp.ev' (ls := [[b2], M]) he8 (mem_flat 0 rfl)
   replace hs_p0 := hs_p0.step hst
   replace hms := hms.ev he8
   replace hev := hev.then he8 (fun b hb => .inr (hfr.at 0 rfl b hb))
   replace hb2 := hb8
   refine x_u 1 [(3, Vi 10)] ?_
   refine x_ek ?_
   refine c_ret ?_
   refine k_then_ret ?_
   refine r_ret (r_vals [.agg #[Vi 0, .slice none 0 0, .slice none 0 0], Vi 10] ⟨⟨_, rfl, loadVar_of_reads (reads_boxagg (Mo := []) 0 [Vi 0, .slice none 0 0, .slice none 0 0] tagg29 hb2 nn rfl)⟩, rfl, trivial⟩ ?_)
   have hx := some_inj h
   subst hx
   have hmr : MS w8 [blk none, blk none, M] := hms.pick [none, none, some 1] _ rfl
   have hsu : ∀ x ∈ fl [blk none, blk none, M], x ∈ fl [[b2], M] := pick_sub [none, none, some 1] _ rfl
   have hfe : FR w.heap.size [blk none, blk none] := hfr.pick [none, none] _ rfl
   exact ⟨none, 0, none, 0, rfl, hev, hmr, hfe, OwnS.nil _ _ _ _, OwnS.nil _ _ _ _⟩
 refine c_skip ?_
 refine k_then ?_
 refine c_sp ?_
 refine x_u 1 [(25, Vl a_p0 p0 c_p0)] ?_
 obtain ⟨x9, hx9, h⟩ := bind_some h
 obtain ⟨ad9, cs9, hr9, hc9, hR⟩ := reads_index (Mo := []) tsl46 hs_p0 hx9
 obtain rfl := hR
 refine x_indexAddr (xv := Vl a_p0 p0 c_p0) (yv := Vi 1) (.pointer (some ad9)) rfl rfl rfl rfl hr9 ?_
 refine x_load (xv := .pointer (some ad9)) (.int .u8 x9) rfl rfl rfl (reads_cell0 tcell5 hc9 (fun _ h => by cases h)) ?_
 refine x_convert (Vi (IntKind.i64.wrap x9)) _ rfl rfl rfl (tcv5_3 x9 _) ?_
 refine inl1 ?_
 refine x_u 1 [(4, Vi (IntKind.i64.wrap x9))] ?_
 refine x_ek ?_
 refine c_sp ?_
 refine x_u 7 [(29, Vi (IntKind.i64.wrap x9)), (30, Vi (IntKind.i64.wrap (2 * (IntKind.i64.wrap x9)))), (31, Vi (IntKind.i64.wrap (3 + (IntKind.i64.wrap (2 * (IntKind.i64.wrap x9)))))), (32, Vl a_p0 p0 c_p0), (33, Vi (IntKind.i64.wrap x9)), (34, Vi (IntKind.i64.wrap (2 * (IntKind.i64.wrap x9)))), (35, Vi (IntKind.i64.wrap (2 + (IntKind.i64.wrap (2 * (IntKind.i64.wrap x9))))))] ?_
 obtain ⟨x11, hx11, h⟩ := bind_some h
 obtain ⟨ad11, cs11, hr11, hc11, hR⟩ := reads_index (Mo := []) tsl46 hs_p0 hx11
 obtain rfl := hR
 refine x_indexAddr (xv := Vl a_p0 p0 c_p0) (yv := Vi (IntKind.i64.wrap (2 + (IntKind.i64.wrap (2 * (IntKind.i64.wrap x9)))))) (.pointer (some ad11)) rfl rfl rfl rfl hr11 ?_
 refine x_load (xv := .pointer (some ad11)) (.int .u8 x11) rfl rfl rfl (reads_cell0 tcell5 hc11 (fun _ h => by cases h)) ?_
 refine x_convert (Vi (IntKind.i64.wrap x11)) _ rfl rfl rfl (tcv5_3 x11 _) ?_
 refine inl1 ?_
 refine x_u 2 [(39, Vi (IntKind.i64.wrap ((IntKind.i64.wrap (3 + (IntKind.i64.wrap (2 * (IntKind.i64.wrap x9))))) + (IntKind.i64.wrap x11)))), (5, Vi (IntKind.i64.wrap ((IntKind.i64.wrap (3 + (IntKind.i64.wrap (2 * (IntKind.i64.wrap x9))))) + (IntKind.i64.wrap x11))))] ?_
 refine x_ek ?_
 refine c_norm [(0, Vl a_p0 p0 c_p0), (2, Vp b2 0), (4, Vi (IntKind.i64.wrap x9)), (5, Vi (IntKind.i64.wrap ((IntKind.i64.wrap (3 + (IntKind.i64.wrap (2 * (IntKind.i64.wrap x9))))) + (IntKind.i64.wrap x11))))] ⟨rfl, rfl, rfl, rfl, trivial⟩ (fun J => ?_)
 refine c_seq ?_
 refine c_sp ?_
 refine x_u 1 [(40, Vl a_p0 p0 c_p0)] ?_
 refine x_len (vs := [Vl a_p0 p0 c_p0]) (Vi ((p0).length : Int)) rfl rfl rfl (reads_len tsl46 _ _ _ _ _) ?_
 refine x_u 2 [(42, Vi (IntKind.i64.wrap ((IntKind.i64.wrap (3 + (IntKind.i64.wrap (2 * (IntKind.i64.wrap x9))))) + (IntKind.i64.wrap x11)))), (43, .bool (decide (((p0).length : Int) < (IntKind.i64.wrap ((IntKind.i64.wrap (3 + (IntKind.i64.wrap (2 * (IntKind.i64.wrap x9))))) + (IntKind.i64.wrap x11))))))] ?_
 refine x_ek ?_
 refine c_if (decide (((p0).length : Int) < (IntKind.i64.wrap ((IntKind.i64.wrap (3 + (IntKind.i64.wrap (2 * (IntKind.i64.wrap x9))))) + (IntKind.i64.wrap x11))))) rfl h (fun h => ?_) (fun h => ?_)
 · refine c_sp ?_
   refine x_build (vs := []) (.agg #[Vi 0, .slice none 0 0, .slice none 0 0]) rfl rfl rfl (fun _ _ => by kernel_rfl) ?_
   obtain ⟨w14, hr14, hb14, he14⟩ := store_boxagg 0 [Vi 0, .slice none 0 0, .slice none 0 0] #[Vi 0, .slice none 0 0, .slice none 0 0] tagg29 hb2 rfl rfl rfl
   refine x_store w14 (xv := Vp b2 0) (yv := .agg #[Vi 0, .slice none 0 0, .slice none 0 0]) rfl rfl rfl rfl hr14 ?_
   refine inl1 ?_
   have hst := Stp.ev' (ls := [[b2], M]) he14 (mem_flat 0 rfl)
   replace hs_p0 := hs_p0.step hst
   replace hms := hms.ev he14
   replace hev := hev.then he14 (fun b hb => .inr (hfr.at 0 rfl b hb))
   replace hb2 := hb14
   refine x_u 1 [(3, Vi 10)] ?_
   refine x_ek ?_
   refine c_ret ?_
   refine k_then_ret ?_
   refine r_ret (r_vals [.agg #[Vi 0, .slice none 0 0, .slice none 0 0], Vi 10] ⟨⟨_, rfl, loadVar_of_reads (reads_boxagg (Mo := []) 0 [Vi 0, .slice none 0 0, .slice none 0 0] tagg29 hb2 nn rfl)⟩, rfl, trivial⟩ ?_)
   have hx := some_inj h
   subst hx
   have hmr : MS w14 [blk none, blk none, M] := hms.pick [none, none, some 1] _ rfl
   have hsu : ∀ x ∈ fl [blk none, blk none, M], x ∈ fl [[b2], M] := pick_sub [none, none, some 1] _ rfl
   have hfe : FR w.heap.size [blk none, blk none] := hfr.pick [none, none] _ rfl
   exact ⟨none, 0, none, 0, rfl, hev, hmr, hfe, OwnS.nil _ _ _ _, OwnS.nil _ _ _ _⟩
 refine c_skip ?_
 refine k_then ?_
 refine c_seq ?_
 refine c_sp ?_
 refine x_u 1 [(45, Vl a_p0 p0 c_p0)] ?_
 refine x_len (vs := [Vl a_p0 p0 c_p0]) (Vi ((p0).length : Int)) rfl rfl rfl (reads_len tsl46 _ _ _ _ _) ?_
 refine x_u 2 [(47, Vi (IntKind.i64.wrap ((IntKind.i64.wrap (3 + (IntKind.i64.wrap (2 * (IntKind.i64.wrap x9))))) + (IntKind.i64.wrap x11)))), (48, .bool (decide (((p0).length : Int) > (IntKind.i64.wrap ((IntKind.i64.wrap (3 + (IntKind.i64.wrap (2 * (IntKind.i64.wrap x9))))) + (IntKind.i64.wrap x11))))))] ?_
 refine x_ek ?_
 refine c_if (decide (((p0).length : Int) > (IntKind.i64.wrap ((IntKind.i64.wrap (3 + (IntKind.i64.wrap (2 * (IntKind.i64.wrap x9))))) + (IntKind.i64.wrap x11))))) rfl h (fun h => ?_) (fun h => ?_)
 · refine c_sp ?_
   refine x_build (vs := []) (.agg #[Vi 0, .slice none 0 0, .slice none 0 0]) rfl rfl rfl (fun _ _ => by kernel_rfl) ?_
   obtain ⟨w16, hr16, hb16, he16⟩ := store_boxagg 0 [Vi 0, .slice none 0 0, .slice none 0 0] #[Vi 0, .slice none 0 0, .slice none 0 0] tagg29 hb2 rfl rfl rfl
   refine x_store w16 (xv := Vp b2 0) (yv := .agg #[Vi 0, .slice none 0 0, .slice none 0 0]) rfl rfl rfl rfl hr16 ?_
   refine inl1 ?_
   have hst := Stp.ev' (ls := [[b2], M]) he16 (mem_flat 0 rfl)
   replace hs_p0 := hs_p0.step hst
   replace hms := hms.ev he16
   replace hev := hev.then he16 (fun b hb => .inr (hfr.at 0 rfl b hb))
   replace hb2 := hb16
   refine x_u 1 [(3, Vi 11)] ?_
   refine x_ek ?_
   refine c_ret ?_
   refine k_then_ret ?_
   refine r_ret (r_vals [.agg #[Vi 0, .slice none 0 0, .slice none 0 0], Vi 11] ⟨⟨_, rfl, loadVar_of_reads (reads_boxagg (Mo := []) 0 [Vi 0, .slice none 0 0, .slice none 0 0] tagg29 hb2 nn rfl)⟩, rfl, trivial⟩ ?_)
   have hx := some_inj h
   subst hx
   have hmr : MS w16 [blk none, blk none, M] := hms.pick [none, none, some 1] _ rfl
   have hsu : ∀ x ∈ fl [blk none, blk none, M], x ∈ fl [[b2], M] := pick_sub [none, none, some 1] _ rfl
   have hfe : FR w.heap.size [blk none, blk none] := hfr.pick [none, none] _ rfl
   exact ⟨none, 0, none, 0, rfl, hev, hmr, hfe, OwnS.nil _ _ _ _, OwnS.nil _ _ _ _⟩
 refine c_skip ?_
 refine k_then ?_
 refine c_sp ?_
 refine x_u 1 [(50, Vl a_p0 p0 c_p0)] ?_
 obtain ⟨x17, hx17, h⟩ := bind_some h
 obtain ⟨ad17, cs17, hr17, hc17, hR⟩ := reads_index (Mo := []) tsl46 hs_p0 hx17
 obtain rfl := hR
 refine x_indexAddr (xv := Vl a_p0 p0 c_p0) (yv := Vi 0) (.pointer (some ad17)) rfl rfl rfl rfl hr17 ?_
 refine x_load (xv := .pointer (some ad17)) (.int .u8 x17) rfl rfl rfl (reads_cell0 tcell5 hc17 (fun _ h => by cases h)) ?_
 refine x_convert (Vi (IntKind.i64.wrap x17)) _ rfl rfl rfl (tcv5_3 x17 _) ?_
 refine inl1 ?_
 refine x_build (vs := [(0, Vi (IntKind.i64.wrap x17))]) (.agg #[Vi (IntKind.i64.wrap x17), .slice none 0 0]) rfl rfl rfl (fun _ _ => by kernel_rfl) ?_
 refine x_build (vs := [(0, .agg #[Vi (IntKind.i64.wrap x17), .slice none 0 0])]) (.agg #[Vi (IntKind.i64.wrap x17), .slice none 0 0, .slice none 0 0]) rfl rfl rfl (fun _ _ => by kernel_rfl) ?_
 refine x_alloc (z := .agg #[Vi 0, .slice none 0 0, .slice none 0 0]) rfl rfl (by kernel_rfl) (fun b19 w19 hq19 hb19 he19 hz19 => ?_)
 replace hb19 : w19.heap[b19]? = some (.cells #[Vi 0, .slice none 0 0, .slice none 0 0] 29 (0, 0)) := hb19
 refine inl1 ?_
 have hst := Stp.box (ls := [[b2], M]) he19 hq19
 replace hs_p0 := hs_p0.step hst
 replace hb2 := he19.box hb2 nn
 replace hc17 := hc17.step hst
 replace hms := hms.box he19 hq19 hb19
 replace hfr := hfr.box hev.size hq19
 replace hev := hev.ext he19
 obtain ⟨w21, hr21, hb21, he21⟩ := store_boxagg 0 [Vi (IntKind.i64.wrap x17), .slice none 0 0, .slice none 0 0] #[Vi (IntKind.i64.wrap x17), .slice none 0 0, .slice none 0 0] tagg29 hb19 rfl rfl rfl
 refine x_store w21 (xv := Vp b19 0) (yv := .agg #[Vi (IntKind.i64.wrap x17), .slice none 0 0, .slice none 0 0]) rfl rfl rfl rfl hr21 ?_
 refine inl1 ?_
 have hst := Stp.ev' (ls := [[b19], [b2], M]) he21 (mem_flat 0 rfl)
 replace hs_p0 := hs_p0.step hst
 replace hb2 := he21.box hb2 (hms.apart 1 0 rfl rfl rfl _ mem1)
 replace hc17 := hc17.step hst
 replace hms := hms.ev he21
 replace hev := hev.then he21 (fun b hb => .inr (hfr.at 0 rfl b hb))
 replace hb19 := hb21
 refine x_ek ?_
 refine c_norm [(0, Vl a_p0 p0 c_p0), (2, Vp b2 0), (4, Vi (IntKind.i64.wrap x9)), (5, Vi (IntKind.i64.wrap ((IntKind.i64.wrap (3 + (IntKind.i64.wrap (2 * (IntKind.i64.wrap x9))))) + (IntKind.i64.wrap x11)))), (6, Vp b19 0)] ⟨rfl, rfl, rfl, rfl, rfl, trivial⟩ (fun J => ?_)
 refine c_seq ?_
 refine c_sp ?_
 refine x_u 1 [(7, Vi 0)] ?_
 refine x_ek ?_
 refine c_block ?_
 have hst := Stp.push (ls := [[b19], [b2], M]) (l := blk none) (Ev.refl [] w21) (fun _ h => by cases h) (fun _ h => by cases h)
 replace hs_p0 := hs_p0.step hst
 replace hb2 := (Ev.refl [] _).box hb2 nn
 replace hb19 := (Ev.refl [] _).box hb19 nn
 replace hms := hms.push (l := blk none) (Ev.refl [] _) (fun _ h => by cases h)
 replace hfr := hfr.push (l := blk none) (fun _ h => by cases h)
 have ho24 := OwnS.nil (eInt .i64) 3 w21 (fl [blk none, [b19], [b2], M])
 have hpk : MS w21 [[b2], blk none, [b19], M] := hms.pick [some 2, some 0, some 1, some 3] _ rfl
 have hsu : ∀ x ∈ fl [[b2], blk none, [b19], M], x ∈ fl [blk none, [b19], [b2], M] := pick_sub [some 2, some 0, some 1, some 3] _ rfl
 replace hs_p0 := hs_p0.sub hsu
 replace ho24 := ho24.sub hsu
 replace hms := hpk
 replace hfr : FR w.heap.size [[b2], blk none, [b19]] := hfr.pick [some 2, some 0, some 1] _ rfl
 clear hpk hsu
 obtain ⟨d23, hd23, h23⟩ := bind_some h
 obtain ⟨m23, hd23⟩ := loop_some hd23
 refine c_loop (loop_rule hmx (σ := Nat × (List Int) × Int × Option Addr × Nat) (fun s => match s with | (_, d25_l23, i_s7_l23, a25_l23, c25_l23) => [(0, Vl a_p0 p0 c_p0), (2, Vp b2 0), (4, Vi (IntKind.i64.wrap x9)), (5, Vi (IntKind.i64.wrap ((IntKind.i64.wrap (3 + (IntKind.i64.wrap (2 * (IntKind.i64.wrap x9))))) + (IntKind.i64.wrap x11)))), (6, Vp b19 0), (7, Vi i_s7_l23)]) (fun s w' => match s with | (m, d25_l23, i_s7_l23, a25_l23, c25_l23) => loopN (r15_Decode_L23 p0 x9) m (d25_l23, i_s7_l23) = some d23 ∧ Ev [] w w' ∧ MS w' [[b2], blk a25_l23, [b19], M] ∧ FR w.heap.size [[b2], blk a25_l23, [b19]] ∧ SlR (eInt .u8) w' (fl [[b2], blk a25_l23, [b19], M]) a_p0 c_p0 p0 ∧ w'.heap[b2]? = some (.cells #[Vi 0, .slice none 0 0, .slice none 0 0] 29 (0, 0)) ∧ OwnS (eInt .i64) 3 w' (fl [[b2], blk a25_l23, [b19], M]) a25_l23 c25_l23 d25_l23 ∧ w'.heap[b19]? = some (.cells #[Vi (IntKind.i64.wrap x17), Vl a25_l23 d25_l23 c25_l23, .slice none 0 0] 29 (0, 0))) (fun s => s.1) (m23, ([] : List Int), 0, none, 0) ⟨rfl, rfl, rfl, rfl, rfl, rfl, trivial⟩ ⟨hd23, hev, hms, hfr, hs_p0, hb2, ho24, hb19⟩ ?_)
 rintro ⟨m23, d25_l23, i_s7_l23, a25_l23, c25_l23⟩ J wl23 ⟨hn23, hev, hms, hfr, hs_p0, hb2, hj25_l23, hb19⟩
 rcases m23 with _ | m23
 · exact (loopN_zero hn23).elim
 obtain ⟨t23, h, hn23⟩ := bind_some hn23
 refine c_seq ?_
 refine c_sp ?_
 refine x_u 3 [(56, Vi i_s7_l23), (57, Vi (IntKind.i64.wrap x9)), (58, .bool (decide (i_s7_l23 < (IntKind.i64.wrap x9))))] ?_
 refine x_ek ?_
 refine c_norm [(0, Vl a_p0 p0 c_p0), (2, Vp b2 0), (4, Vi (IntKind.i64.wrap x9)), (5, Vi (IntKind.i64.wrap ((IntKind.i64.wrap (3 + (IntKind.i64.wrap (2 * (IntKind.i64.wrap x9))))) + (IntKind.i64.wrap x11)))), (6, Vp b19 0), (7, Vi i_s7_l23), (58, .bool (decide (i_s7_l23 < (IntKind.i64.wrap x9))))] ⟨rfl, rfl, rfl, rfl, rfl, rfl, rfl, trivial⟩ (fun J => ?_)
 refine c_if (decide (i_s7_l23 < (IntKind.i64.wrap x9))) rfl h (fun h => ?_) (fun h => ?_)
 · refine c_skip ?_
   refine k_then ?_
   refine c_seq ?_
   refine c_block ?_
   refine c_drawnp (blk a25_l23) [(0, false), (1, false), (2, false), (3, false), (4, false), (5, false), (6, false), (7, false), (8, false), (11, false), (12, false), (13, false), (14, false), (15, false), (16, false)] (.alt 9 false (opsThen [(10, false), (17, false), (18, true), (19, false), (20, false), (21, true), (22, true), (23, true)] .stop) (.alt 17 false (opsThen [(9, false), (10, false), (18, true), (19, false), (20, false), (21, true), (22, true), (23, true)] .stop) .none_)) _ (by kernel_rfl) rfl ?_
   have hst := Stp.ext (ls := [[b2], blk a25_l23, [b19], M]) (Ev.drew wl23)
   replace hs_p0 := hs_p0.step hst
   replace hb2 := (Ev.drew wl23).box hb2 nn
   replace hb19 := (Ev.drew wl23).box hb19 nn
   replace hj25_l23 := hj25_l23.step hst (Ev.drew wl23) nn2
   replace hms := hms.ev (Ev.drew wl23)
   replace hev := hev.ext (Ev.drew wl23)
   refine x_fieldAddr (xv := Vp b19 0) (Vp b19 0) rfl rfl rfl (reads_field tfld29_0 _ _) ?_
   refine x_fieldAddr (xv := Vp b19 0) (Vp b19 1) rfl rfl rfl (reads_field tfld27_1 _ _) ?_
   refine x_load (xv := Vp b19 1) (Vl a25_l23 d25_l23 c25_l23) rfl rfl rfl (reads_box tcell22 hb19 ((hms.apart 2 1 rfl rfl rfl) _ mem1) 1 _ rfl) ?_
   refine x_u 4 [(64, Vl a_p0 p0 c_p0), (65, Vi i_s7_l23), (66, Vi (IntKind.i64.wrap (2 * i_s7_l23))), (67, Vi (IntKind.i64.wrap (2 + (IntKind.i64.wrap (2 * i_s7_l23)))))] ?_
   obtain ⟨x27, hx27, h⟩ := bind_some h
   obtain ⟨ad27, cs27, hr27, hc27, hR⟩ := reads_index (Mo := (blk a25_l23)) tsl46 hs_p0 hx27
   obtain rfl := hR
   refine x_indexAddr (xv := Vl a_p0 p0 c_p0) (yv := Vi (IntKind.i64.wrap (2 + (IntKind.i64.wrap (2 * i_s7_l23))))) (.pointer (some ad27)) rfl rfl rfl rfl hr27 ?_
   refine x_load (xv := .pointer (some ad27)) (.int .u8 x27) rfl rfl rfl (reads_cell0 tcell5 hc27 (mem_flat 1 rfl)) ?_
   refine x_u 4 [(72, Vl a_p0 p0 c_p0), (73, Vi i_s7_l23), (74, Vi (IntKind.i64.wrap (2 * i_s7_l23))), (75, Vi (IntKind.i64.wrap (3 + (IntKind.i64.wrap (2 * i_s7_l23)))))] ?_
   obtain ⟨x29, hx29, h⟩ := bind_some h
   obtain ⟨ad29, cs29, hr29, hc29, hR⟩ := reads_index (Mo := (blk a25_l23)) tsl46 hs_p0 hx29
   obtain rfl := hR
   refine x_indexAddr (xv := Vl a_p0 p0 c_p0) (yv := Vi (IntKind.i64.wrap (3 + (IntKind.i64.wrap (2 * i_s7_l23))))) (.pointer (some ad29)) rfl rfl rfl rfl hr29 ?_
   refine x_load (xv := .pointer (some ad29)) (.int .u8 x29) rfl rfl rfl (reads_cell0 tcell5 hc29 (mem_flat 1 rfl)) ?_
   refine x_end rfl ?_
   refine t_alt _ rfl ?_ ?_
   · refine x_convert (Vi (IntKind.i64.wrap x27)) _ rfl rfl rfl (tcv5_3 x27 _) ?_
     refine ⟨.inr (Ev.refl _ _), ?_⟩
     refine x_u 1 [(71, Vi (IntKind.i64.wrap ((IntKind.i64.wrap x27) * 256)))] ?_
     refine x_convert (Vi (IntKind.i64.wrap x29)) _ rfl rfl rfl (tcv5_3 x29 _) ?_
     refine ⟨.inr (Ev.refl _ _), ?_⟩
     refine x_u 1 [(79, Vi (IntKind.i64.wrap ((IntKind.i64.wrap ((IntKind.i64.wrap x27) * 256)) + (IntKind.i64.wrap x29))))] ?_
     refine x_buildSlice (vs := [(0, Vi (IntKind.i64.wrap ((IntKind.i64.wrap ((IntKind.i64.wrap x27) * 256)) + (IntKind.i64.wrap x29))))]) #[Vi (IntKind.i64.wrap ((IntKind.i64.wrap ((IntKind.i64.wrap x27) * 256)) + (IntKind.i64.wrap x29)))] 3 rfl rfl rfl (by kernel_rfl) (fun b31 w31 hq31 hb31 he31 hz31 => ?_)
     refine ⟨.inr (he31.nil), ?_⟩
     have hms0 := hms
     have hst := Stp.ext (ls := [[b2], blk a25_l23, [b19], M]) he31
     replace hs_p0 := hs_p0.step hst
     replace hb2 := he31.box hb2 nn
     replace hb19 := he31.box hb19 nn
     replace hj25_l23 := hj25_l23.step hst he31 nn2
     replace hc27 := hc27.step hst
     replace hc29 := hc29.step hst
     replace hms := hms.ev he31
     replace hev := hev.ext he31
     have hs31 : SlR (eInt .i64) w31 (fl [[b2], blk a25_l23, [b19], M]) (Ad b31 0) 1 ([IntKind.i64.wrap ((IntKind.i64.wrap ((IntKind.i64.wrap x27) * 256)) + (IntKind.i64.wrap x29))]) := ro_of_box hms0 hq31 hb31 rfl rfl (cells_at (cs := [Vi (IntKind.i64.wrap ((IntKind.i64.wrap ((IntKind.i64.wrap x27) * 256)) + (IntKind.i64.wrap x29)))]) (CellsOf.cons (c := [Vi (IntKind.i64.wrap ((IntKind.i64.wrap ((IntKind.i64.wrap x27) * 256)) + (IntKind.i64.wrap x29)))]) rfl CellsOf.nil))
     clear hb31 hms0
     have hg := guard_l h
     replace h := guard_r h
     obtain ⟨a33, c33, w33, hr33, he33, hn33, hm33, hw33⟩ := own_appendN tel22 22 hj25_l23 (mem_flat 1 rfl) hs31 hg
     refine x_builtin (vs := [Vl a25_l23 d25_l23 c25_l23, .slice (Ad b31 0) ([IntKind.i64.wrap ((IntKind.i64.wrap ((IntKind.i64.wrap x27) * 256)) + (IntKind.i64.wrap x29))]).length 1]) _ w33 rfl rfl rfl rfl (run_value _ _ _ _ hr33) ?_
     refine ⟨.inr he33, ?_⟩
     have hst : Stp (fl [[b2], blk a25_l23, [b19], M]) w31 (fl [[b2], blk a33, [b19], M]) w33 := Stp.upd 1 he33 rfl (fun b hb => (hn33 b hb).1)
     replace hs_p0 := hs_p0.step hst
     replace hb2 := he33.box hb2 (hms.apart 0 1 rfl rfl rfl _ mem1)
     replace hb19 := he33.box hb19 (hms.apart 2 1 rfl rfl rfl _ mem1)
     replace hc27 := hc27.step hst
     replace hc29 := hc29.step hst
     replace hs31 := hs31.step hst
     replace hms : MS w33 [[b2], blk a33, [b19], M] := hms.upd 1 he33 rfl hn33
     have hfr2 : FR w.heap.size [[b2], blk a33, [b19]] := hfr.upd 1 rfl hev.size (fun b hb => (hn33 b hb).1)
     replace hev := hev.then he33 (fun b hb => .inr (hfr.at 1 rfl b hb))
     replace hfr := hfr2
     clear hfr2
     replace hj25_l23 := hw33 (fl [[b2], blk a33, [b19], M]) hst.new
     clear hw33
     refine x_fieldAddr (xv := Vp b19 0) (Vp b19 0) rfl rfl rfl (reads_field tfld29_0 _ _) ?_
     refine x_fieldAddr (xv := Vp b19 0) (Vp b19 1) rfl rfl rfl (reads_field tfld27_1 _ _) ?_
     obtain ⟨w34, hr34, hb34, he34⟩ := store_box 1 (.slice a33 ((d25_l23 ++ [IntKind.i64.wrap ((IntKind.i64.wrap ((IntKind.i64.wrap x27) * 256)) + (IntKind.i64.wrap x29))])).length c33) #[Vi (IntKind.i64.wrap x17), .slice a33 ((d25_l23 ++ [IntKind.i64.wrap ((IntKind.i64.wrap ((IntKind.i64.wrap x27) * 256)) + (IntKind.i64.wrap x29))])).length c33, .slice none 0 0] tcell22 hb19 rfl rfl rfl
     refine x_store w34 (xv := Vp b19 1) (yv := .slice a33 ((d25_l23 ++ [IntKind.i64.wrap ((IntKind.i64.wrap ((IntKind.i64.wrap x27) * 256)) + (IntKind.i64.wrap x29))])).length c33) rfl rfl rfl rfl hr34 ?_
     refine inl1 ?_
     have hst := Stp.ev' (ls := [[b2], blk a33, [b19], M]) he34 (mem_flat 2 rfl)
     replace hs_p0 := hs_p0.step hst
     replace hb2 := he34.box hb2 (hms.apart 0 2 rfl rfl rfl _ mem1)
     replace hj25_l23 := hj25_l23.step hst he34 (hms.apart 1 2 rfl rfl rfl)
     replace hc27 := hc27.step hst
     replace hc29 := hc29.step hst
     replace hs31 := hs31.step hst
     replace hms := hms.ev he34
     replace hev := hev.then he34 (fun b hb => .inr (hfr.at 2 rfl b hb))
     replace hb19 := hb34
     refine x_end rfl ?_
     refine t_stop ?_
     refine k_block ?_
     refine k_then ?_
     refine c_norm [(0, Vl a_p0 p0 c_p0), (2, Vp b2 0), (4, Vi (IntKind.i64.wrap x9)), (5, Vi (IntKind.i64.wrap ((IntKind.i64.wrap (3 + (IntKind.i64.wrap (2 * (IntKind.i64.wrap x9))))) + (IntKind.i64.wrap x11)))), (6, Vp b19 0), (7, Vi i_s7_l23)] ⟨rfl, rfl, rfl, rfl, rfl, rfl, trivial⟩ (fun J => ?_)
     refine c_plain ?_
     refine x_u 3 [(59, Vi i_s7_l23), (60, Vi (IntKind.i64.wrap (i_s7_l23 + 1))), (7, Vi (IntKind.i64.wrap (i_s7_l23 + 1)))] ?_
     refine x_end rfl ?_
     have hx := some_inj h
     subst hx
     exact k_then ⟨(m23, (d25_l23 ++ [IntKind.i64.wrap ((IntKind.i64.wrap ((IntKind.i64.wrap x27) * 256)) + (IntKind.i64.wrap x29))]), IntKind.i64.wrap (i_s7_l23 + 1), a33, c33), ⟨rfl, rfl, rfl, rfl, rfl, rfl, trivial⟩, ⟨hn23, hev, hms, hfr, hs_p0, hb2, hj25_l23, hb19⟩, Nat.lt_succ_self _⟩
   refine t_alt _ rfl ?_ ?_
   · refine x_convert (Vi (IntKind.i64.wrap x29)) _ rfl rfl rfl (tcv5_3 x29 _) ?_
     refine ⟨.inr (Ev.refl _ _), ?_⟩
     refine x_convert (Vi (IntKind.i64.wrap x27)) _ rfl rfl rfl (tcv5_3 x27 _) ?_
     refine ⟨.inr (Ev.refl _ _), ?_⟩
     refine x_u 2 [(71, Vi (IntKind.i64.wrap ((IntKind.i64.wrap x27) * 256))), (79, Vi (IntKind.i64.wrap ((IntKind.i64.wrap ((IntKind.i64.wrap x27) * 256)) + (IntKind.i64.wrap x29))))] ?_
     refine x_buildSlice (vs := [(0, Vi (IntKind.i64.wrap ((IntKind.i64.wrap ((IntKind.i64.wrap x27) * 256)) + (IntKind.i64.wrap x29))))]) #[Vi (IntKind.i64.wrap ((IntKind.i64.wrap ((IntKind.i64.wrap x27) * 256)) + (IntKind.i64.wrap x29)))] 3 rfl rfl rfl (by kernel_rfl) (fun b31 w31 hq31 hb31 he31 hz31 => ?_)
     refine ⟨.inr (he31.nil), ?_⟩
     have hms0 := hms
     have hst := Stp.ext (ls := [[b2], blk a25_l23, [b19], M]) he31
     replace hs_p0 := hs_p0.step hst
     replace hb2 := he31.box hb2 nn
     replace hb19 := he31.box hb19 nn
     replace hj25_l23 := hj25_l23.step hst he31 nn2
     replace hc27 := hc27.step hst
     replace hc29 := hc29.step hst
     replace hms := hms.ev he31
     replace hev := hev.ext he31
     have hs31 : SlR (eInt .i64) w31 (fl [[b2], blk a25_l23, [b19], M]) (Ad b31 0) 1 ([IntKind.i64.wrap ((IntKind.i64.wrap ((IntKind.i64.wrap x27) * 256)) + (IntKind.i64.wrap x29))]) := ro_of_box hms0 hq31 hb31 rfl rfl (cells_at (cs := [Vi (IntKind.i64.wrap ((IntKind.i64.wrap ((IntKind.i64.wrap x27) * 256)) + (IntKind.i64.wrap x29)))]) (CellsOf.cons (c := [Vi (IntKind.i64.wrap ((IntKind.i64.wrap ((IntKind.i64.wrap x27) * 256)) + (IntKind.i64.wrap x29)))]) rfl CellsOf.nil))
     clear hb31 hms0
     have hg := guard_l h
     replace h := guard_r h
     obtain ⟨a33, c33, w33, hr33, he33, hn33, hm33, hw33⟩ := own_appendN tel22 22 hj25_l23 (mem_flat 1 rfl) hs31 hg
     refine x_builtin (vs := [Vl a25_l23 d25_l23 c25_l23, .slice (Ad b31 0) ([IntKind.i64.wrap ((IntKind.i64.wrap ((IntKind.i64.wrap x27) * 256)) + (IntKind.i64.wrap x29))]).length 1]) _ w33 rfl rfl rfl rfl (run_value _ _ _ _ hr33) ?_
     refine ⟨.inr he33, ?_⟩
     have hst : Stp (fl [[b2], blk a25_l23, [b19], M]) w31 (fl [[b2], blk a33, [b19], M]) w33 := Stp.upd 1 he33 rfl (fun b hb => (hn33 b hb).1)
     replace hs_p0 := hs_p0.step hst
     replace hb2 := he33.box hb2 (hms.apart 0 1 rfl rfl rfl _ mem1)
     replace hb19 := he33.box hb19 (hms.apart 2 1 rfl rfl rfl _ mem1)
     replace hc27 := hc27.step hst
     replace hc29 := hc29.step hst
     replace hs31 := hs31.step hst
     replace hms : MS w33 [[b2], blk a33, [b19], M] := hms.upd 1 he33 rfl hn33
     have hfr2 : FR w.heap.size [[b2], blk a33, [b19]] := hfr.upd 1 rfl hev.size (fun b hb => (hn33 b hb).1)
     replace hev := hev.then he33 (fun b hb => .inr (hfr.at 1 rfl b hb))
     replace hfr := hfr2
     clear hfr2
     replace hj25_l23 := hw33 (fl [[b2], blk a33, [b19], M]) hst.new
     clear hw33
     refine x_fieldAddr (xv := Vp b19 0) (Vp b19 0) rfl rfl rfl (reads_field tfld29_0 _ _) ?_
     refine x_fieldAddr (xv := Vp b19 0) (Vp b19 1) rfl rfl rfl (reads_field tfld27_1 _ _) ?_
     obtain ⟨w34, hr34, hb34, he34⟩ := store_box 1 (.slice a33 ((d25_l23 ++ [IntKind.i64.wrap ((IntKind.i64.wrap ((IntKind.i64.wrap x27) * 256)) + (IntKind.i64.wrap x29))])).length c33) #[Vi (IntKind.i64.wrap x17), .slice a33 ((d25_l23 ++ [IntKind.i64.wrap ((IntKind.i64.wrap ((IntKind.i64.wrap x27) * 256)) + (IntKind.i64.wrap x29))])).length c33, .slice none 0 0] tcell22 hb19 rfl rfl rfl
     refine x_store w34 (xv := Vp b19 1) (yv := .slice a33 ((d25_l23 ++ [IntKind.i64.wrap ((IntKind.i64.wrap ((IntKind.i64.wrap x27) * 256)) + (IntKind.i64.wrap x29))])).length c33) rfl rfl rfl rfl hr34 ?_
     refine inl1 ?_
     have hst := Stp.ev' (ls := [[b2], blk a33, [b19], M]) he34 (mem_flat 2 rfl)
     replace hs_p0 := hs_p0.step hst
     replace hb2 := he34.box hb2 (hms.apart 0 2 rfl rfl rfl _ mem1)
     replace hj25_l23 := hj25_l23.step hst he34 (hms.apart 1 2 rfl rfl rfl)
     replace hc27 := hc27.step hst
     replace hc29 := hc29.step hst
     replace hs31 := hs31.step hst
     replace hms := hms.ev he34
     replace hev := hev.then he34 (fun b hb => .inr (hfr.at 2 rfl b hb))
     replace hb19 := hb34
     refine x_end rfl ?_
     refine t_stop ?_
     refine k_block ?_
     refine k_then ?_
     refine c_norm [(0, Vl a_p0 p0 c_p0), (2, Vp b2 0), (4, Vi (IntKind.i64.wrap x9)), (5, Vi (IntKind.i64.wrap ((IntKind.i64.wrap (3 + (IntKind.i64.wrap (2 * (IntKind.i64.wrap x9))))) + (IntKind.i64.wrap x11)))), (6, Vp b19 0), (7, Vi i_s7_l23)] ⟨rfl, rfl, rfl, rfl, rfl, rfl, trivial⟩ (fun J => ?_)
     refine c_plain ?_
     refine x_u 3 [(59, Vi i_s7_l23), (60, Vi (IntKind.i64.wrap (i_s7_l23 + 1))), (7, Vi (IntKind.i64.wrap (i_s7_l23 + 1)))] ?_
     refine x_end rfl ?_
     have hx := some_inj h
     subst hx
     exact k_then ⟨(m23, (d25_l23 ++ [IntKind.i64.wrap ((IntKind.i64.wrap ((IntKind.i64.wrap x27) * 256)) + (IntKind.i64.wrap x29))]), IntKind.i64.wrap (i_s7_l23 + 1), a33, c33), ⟨rfl, rfl, rfl, rfl, rfl, rfl, trivial⟩, ⟨hn23, hev, hms, hfr, hs_p0, hb2, hj25_l23, hb19⟩, Nat.lt_succ_self _⟩
   exact t_none
 refine c_exit ?_
 refine k_then_exit ?_
 have hx := some_inj h
 subst hx
 have hy := some_inj hn23
 subst hy
 replace h := h23
 refine k_then_exit ?_
 refine k_block_in ?_
 refine k_then ?_
 refine c_norm [(0, Vl a_p0 p0 c_p0), (2, Vp b2 0), (4, Vi (IntKind.i64.wrap x9)), (5, Vi (IntKind.i64.wrap ((IntKind.i64.wrap (3 + (IntKind.i64.wrap (2 * (IntKind.i64.wrap x9))))) + (IntKind.i64.wrap x11)))), (6, Vp b19 0)] ⟨rfl, rfl, rfl, rfl, rfl, trivial⟩ (fun J => ?_)
 refine c_seq ?_
 refine c_sp ?_
 refine x_u 4 [(84, Vi (IntKind.i64.wrap x9)), (85, Vi (IntKind.i64.wrap (2 * (IntKind.i64.wrap x9)))), (86, Vi (IntKind.i64.wrap (3 + (IntKind.i64.wrap (2 * (IntKind.i64.wrap x9)))))), (8, Vi (IntKind.i64.wrap (3 + (IntKind.i64.wrap (2 * (IntKind.i64.wrap x9))))))] ?_
 refine x_ek ?_
 refine c_block ?_
 have hst := Stp.push (ls := [[b2], blk a25_l23, [b19], M]) (l := blk none) (Ev.refl [] wl23) (fun _ h => by cases h) (fun _ h => by cases h)
 replace hs_p0 := hs_p0.step hst
 replace hb2 := (Ev.refl [] _).box hb2 nn
 replace hb19 := (Ev.refl [] _).box hb19 nn
 replace hj25_l23 := hj25_l23.step hst (Ev.refl [] _) nn2
 replace hms := hms.push (l := blk none) (Ev.refl [] _) (fun _ h => by cases h)
 replace hfr := hfr.push (l := blk none) (fun _ h => by cases h)
 have ho33 := OwnS.nil (eInt .i64) 3 wl23 (fl [blk none, [b2], blk a25_l23, [b19], M])
 have hpk : MS wl23 [[b2], blk a25_l23, blk none, [b19], M] := hms.pick [some 1, some 2, some 0, some 3, some 4] _ rfl
 have hsu : ∀ x ∈ fl [[b2], blk a25_l23, blk none, [b19], M], x ∈ fl [blk none, [b2], blk a25_l23, [b19], M] := pick_sub [some 1, some 2, some 0, some 3, some 4] _ rfl
 replace hs_p0 := hs_p0.sub hsu
 replace hj25_l23 := hj25_l23.sub hsu
 replace ho33 := ho33.sub hsu
 replace hms := hpk
 replace hfr : FR w.heap.size [[b2], blk a25_l23, blk none, [b19]] := hfr.pick [some 1, some 2, some 0, some 3] _ rfl
 clear hpk hsu
 obtain ⟨d32, hd32, h32⟩ := bind_some h
 obtain ⟨m32, hd32⟩ := loop_some hd32
 refine c_loop (loop_rule hmx (σ := Nat × (List Int) × Int × Option Addr × Nat) (fun s => match s with | (_, d34_l32, i_s8_l32, a34_l32, c34_l32) => [(0, Vl a_p0 p0 c_p0), (2, Vp b2 0), (5, Vi (IntKind.i64.wrap ((IntKind.i64.wrap (3 + (IntKind.i64.wrap (2 * (IntKind.i64.wrap x9))))) + (IntKind.i64.wrap x11)))), (6, Vp b19 0), (8, Vi i_s8_l32)]) (fun s w' => match s with | (m, d34_l32, i_s8_l32, a34_l32, c34_l32) => loopN (r15_Decode_L32 p0 x9 x11) m (d34_l32, i_s8_l32) = some d32 ∧ Ev [] w w' ∧ MS w' [[b2], blk a25_l23, blk a34_l32, [b19], M] ∧ FR w.heap.size [[b2], blk a25_l23, blk a34_l32, [b19]] ∧ SlR (eInt .u8) w' (fl [[b2], blk a25_l23, blk a34_l32, [b19], M]) a_p0 c_p0 p0 ∧ w'.heap[b2]? = some (.cells #[Vi 0, .slice none 0 0, .slice none 0 0] 29 (0, 0)) ∧ OwnS (eInt .i64) 3 w' (fl [[b2], blk a25_l23, blk a34_l32, [b19], M]) a25_l23 c25_l23 d25_l23 ∧ OwnS (eInt .i64) 3 w' (fl [[b2], blk a25_l23, blk a34_l32, [b19], M]) a34_l32 c34_l32 d34_l32 ∧ w'.heap[b19]? = some (.cells #[Vi (IntKind.i64.wrap x17), Vl a25_l23 d25_l23 c25_l23, Vl a34_l32 d34_l32 c34_l32] 29 (0, 0))) (fun s => s.1) (m32, ([] : List Int), IntKind.i64.wrap (3 + (IntKind.i64.wrap (2 * (IntKind.i64.wrap x9)))), none, 0) ⟨rfl, rfl, rfl, rfl, rfl, trivial⟩ ⟨hd32, hev, hms, hfr, hs_p0, hb2, hj25_l23, ho33, hb19⟩ ?_)
 rintro ⟨m32, d34_l32, i_s8_l32, a34_l32, c34_l32⟩ J wl32 ⟨hn32, hev, hms, hfr, hs_p0, hb2, hj25_l23, hj34_l32, hb19⟩
 rcases m32 with _ | m32
 · exact (loopN_zero hn32).elim
 obtain ⟨t32, h, hn32⟩ := bind_some hn32
 refine c_seq ?_
 refine c_sp ?_
 refine x_u 3 [(87, Vi i_s8_l32), (88, Vi (IntKind.i64.wrap ((IntKind.i64.wrap (3 + (IntKind.i64.wrap (2 * (IntKind.i64.wrap x9))))) + (IntKind.i64.wrap x11)))), (89, .bool (decide (i_s8_l32 < (IntKind.i64.wrap ((IntKind.i64.wrap (3 + (IntKind.i64.wrap (2 * (IntKind.i64.wrap x9))))) + (IntKind.i64.wrap x11))))))] ?_
 refine x_ek ?_
 refine c_norm [(0, Vl a_p0 p0 c_p0), (2, Vp b2 0), (5, Vi (IntKind.i64.wrap ((IntKind.i64.wrap (3 + (IntKind.i64.wrap (2 * (IntKind.i64.wrap x9))))) + (IntKind.i64.wrap x11)))), (6, Vp b19 0), (8, Vi i_s8_l32), (89, .bool (decide (i_s8_l32 < (IntKind.i64.wrap ((IntKind.i64.wrap (3 + (IntKind.i64.wrap (2 * (IntKind.i64.wrap x9))))) + (IntKind.i64.wrap x11))))))] ⟨rfl, rfl, rfl, rfl, rfl, rfl, trivial⟩ (fun J => ?_)
 refine c_if (decide (i_s8_l32 < (IntKind.i64.wrap ((IntKind.i64.wrap (3 + (IntKind.i64.wrap (2 * (IntKind.i64.wrap x9))))) + (IntKind.i64.wrap x11))))) rfl h (fun h => ?_) (fun h => ?_)
 · refine c_skip ?_
   refine k_then ?_
   refine c_seq ?_
   refine c_block ?_
   refine c_drawn [] [(0, false), (1, false), (2, false), (3, false), (4, false), (5, false), (6, false), (7, false), (8, true), (9, false), (10, true)] _ (by kernel_rfl) rfl ?_
   have hst := Stp.ext (ls := [[b2], blk a25_l23, blk a34_l32, [b19], M]) (Ev.drew wl32)
   replace hs_p0 := hs_p0.step hst
   replace hb2 := (Ev.drew wl32).box hb2 nn
   replace hb19 := (Ev.drew wl32).box hb19 nn
   replace hj25_l23 := hj25_l23.step hst (Ev.drew wl32) nn2
   replace hj34_l32 := hj34_l32.step hst (Ev.drew wl32) nn2
   replace hms := hms.ev (Ev.drew wl32)
   replace hev := hev.ext (Ev.drew wl32)
   refine x_fieldAddr (xv := Vp b19 0) (Vp b19 2) rfl rfl rfl (reads_field tfld29_1 _ _) ?_
   refine x_load (xv := Vp b19 2) (Vl a34_l32 d34_l32 c34_l32) rfl rfl rfl (reads_box tcell22 hb19 nn 2 _ rfl) ?_
   refine x_u 2 [(94, Vl a_p0 p0 c_p0), (95, Vi i_s8_l32)] ?_
   obtain ⟨x36, hx36, h⟩ := bind_some h
   obtain ⟨ad36, cs36, hr36, hc36, hR⟩ := reads_index (Mo := []) tsl46 hs_p0 hx36
   obtain rfl := hR
   refine x_indexAddr (xv := Vl a_p0 p0 c_p0) (yv := Vi i_s8_l32) (.pointer (some ad36)) rfl rfl rfl rfl hr36 ?_
   refine x_load (xv := .pointer (some ad36)) (.int .u8 x36) rfl rfl rfl (reads_cell0 tcell5 hc36 (fun _ h => by cases h)) ?_
   refine x_convert (Vi (IntKind.i64.wrap x36)) _ rfl rfl rfl (tcv5_3 x36 _) ?_
   refine ⟨.inr (Ev.refl _ _), ?_⟩
   refine x_buildSlice (vs := [(0, Vi (IntKind.i64.wrap x36))]) #[Vi (IntKind.i64.wrap x36)] 3 rfl rfl rfl (by kernel_rfl) (fun b38 w38 hq38 hb38 he38 hz38 => ?_)
   refine ⟨.inr he38, ?_⟩
   have hms0 := hms
   have hst := Stp.ext (ls := [[b2], blk a25_l23, blk a34_l32, [b19], M]) he38
   replace hs_p0 := hs_p0.step hst
   replace hb2 := he38.box hb2 nn
   replace hb19 := he38.box hb19 nn
   replace hj25_l23 := hj25_l23.step hst he38 nn2
   replace hj34_l32 := hj34_l32.step hst he38 nn2
   replace hc36 := hc36.step hst
   replace hms := hms.ev he38
   replace hev := hev.ext he38
   have hs38 : SlR (eInt .i64) w38 (fl [[b2], blk a25_l23, blk a34_l32, [b19], M]) (Ad b38 0) 1 ([IntKind.i64.wrap x36]) := ro_of_box hms0 hq38 hb38 rfl rfl (cells_at (cs := [Vi (IntKind.i64.wrap x36)]) (CellsOf.cons (c := [Vi (IntKind.i64.wrap x36)]) rfl CellsOf.nil))
   clear hb38 hms0
   have hg := guard_l h
   replace h := guard_r h
   obtain ⟨a40, c40, w40, hr40, he40, hn40, hm40, hw40⟩ := own_appendN tel22 22 hj34_l32 (mem_flat 2 rfl) hs38 hg
   refine x_builtin (vs := [Vl a34_l32 d34_l32 c34_l32, .slice (Ad b38 0) ([IntKind.i64.wrap x36]).length 1]) _ w40 rfl rfl rfl rfl (run_value _ _ _ _ hr40) ?_
   refine inl1 ?_
   have hst : Stp (fl [[b2], blk a25_l23, blk a34_l32, [b19], M]) w38 (fl [[b2], blk a25_l23, blk a40, [b19], M]) w40 := Stp.upd 2 he40 rfl (fun b hb => (hn40 b hb).1)
   replace hs_p0 := hs_p0.step hst
   replace hb2 := he40.box hb2 (hms.apart 0 2 rfl rfl rfl _ mem1)
   replace hb19 := he40.box hb19 (hms.apart 3 2 rfl rfl rfl _ mem1)
   replace hj25_l23 := hj25_l23.step hst he40 (hms.apart 1 2 rfl rfl rfl)
   replace hc36 := hc36.step hst
   replace hs38 := hs38.step hst
   replace hms : MS w40 [[b2], blk a25_l23, blk a40, [b19], M] := hms.upd 2 he40 rfl hn40
   have hfr2 : FR w.heap.size [[b2], blk a25_l23, blk a40, [b19]] := hfr.upd 2 rfl hev.size (fun b hb => (hn40 b hb).1)
   replace hev := hev.then he40 (fun b hb => .inr (hfr.at 2 rfl b hb))
   replace hfr := hfr2
   clear hfr2
   replace hj34_l32 := hw40 (fl [[b2], blk a25_l23, blk a40, [b19], M]) hst.new
   clear hw40
   refine x_fieldAddr (xv := Vp b19 0) (Vp b19 2) rfl rfl rfl (reads_field tfld29_1 _ _) ?_
   obtain ⟨w41, hr41, hb41, he41⟩ := store_box 2 (.slice a40 ((d34_l32 ++ [IntKind.i64.wrap x36])).length c40) #[Vi (IntKind.i64.wrap x17), Vl a25_l23 d25_l23 c25_l23, .slice a40 ((d34_l32 ++ [IntKind.i64.wrap x36])).length c40] tcell22 hb19 rfl rfl rfl
   refine x_store w41 (xv := Vp b19 2) (yv := .slice a40 ((d34_l32 ++ [IntKind.i64.wrap x36])).length c40) rfl rfl rfl rfl hr41 ?_
   refine inl1 ?_
   have hst := Stp.ev' (ls := [[b2], blk a25_l23, blk a40, [b19], M]) he41 (mem_flat 3 rfl)
   replace hs_p0 := hs_p0.step hst
   replace hb2 := he41.box hb2 (hms.apart 0 3 rfl rfl rfl _ mem1)
   replace hj25_l23 := hj25_l23.step hst he41 (hms.apart 1 3 rfl rfl rfl)
   replace hj34_l32 := hj34_l32.step hst he41 (hms.apart 2 3 rfl rfl rfl)
   replace hc36 := hc36.step hst
   replace hs38 := hs38.step hst
   replace hms := hms.ev he41
   replace hev := hev.then he41 (fun b hb => .inr (hfr.at 3 rfl b hb))
   replace hb19 := hb41
   refine x_end rfl ?_
   refine k_block ?_
   refine k_then ?_
   refine c_plain ?_
   refine x_u 3 [(90, Vi i_s8_l32), (91, Vi (IntKind.i64.wrap (i_s8_l32 + 1))), (8, Vi (IntKind.i64.wrap (i_s8_l32 + 1)))] ?_
   refine x_end rfl ?_
   have hx := some_inj h
   subst hx
   exact k_then ⟨(m32, (d34_l32 ++ [IntKind.i64.wrap x36]), IntKind.i64.wrap (i_s8_l32 + 1), a40, c40), ⟨rfl, rfl, rfl, rfl, rfl, trivial⟩, ⟨hn32, hev, hms, hfr, hs_p0, hb2, hj25_l23, hj34_l32, hb19⟩, Nat.lt_succ_self _⟩
 refine c_exit ?_
 refine k_then_exit ?_
 have hx := some_inj h
 subst hx
 have hy := some_inj hn32
 subst hy
 replace h := h32
 refine k_then_exit ?_
 refine k_block_in ?_
 refine k_then ?_
 refine c_norm [(2, Vp b2 0), (6, Vp b19 0)] ⟨rfl, rfl, trivial⟩ (fun J => ?_)
 refine c_seq ?_
 refine c_sp ?_
 refine x_load (xv := Vp b19 0) (.agg #[Vi (IntKind.i64.wrap x17), Vl a25_l23 d25_l23 c25_l23, Vl a34_l32 d34_l32 c34_l32]) rfl rfl rfl (reads_boxagg 0 [Vi (IntKind.i64.wrap x17), Vl a25_l23 d25_l23 c25_l23, Vl a34_l32 d34_l32 c34_l32] tagg29 hb19 nn rfl) ?_
 obtain ⟨x42, hx, h⟩ := bind_some h
 have hpk : MS wl32 ([] ++ [[b2], [b19], M]) := hms.pick [some 0, some 3, some 4] _ rfl
 have hsb0 : ∀ x ∈ fl ([] ++ [[b2], [b19], M]), x ∈ fl [[b2], blk a25_l23, blk a34_l32, [b19], M] := pick_sub [some 0, some 3, some 4] _ rfl
 have hsb : ∀ x ∈ fl ([] ++ [(fl [[b2], [b19], M])]), x ∈ fl [[b2], blk a25_l23, blk a34_l32, [b19], M] := fun x hx => hsb0 x (fl_unfold x hx)
 have hcall := r15_valid_w (IntKind.i64.wrap x17) a25_l23 c25_l23 d25_l23 a34_l32 c34_l32 d34_l32 _ wl32 (fl [[b2], [b19], M]) (MS.fold (P := []) hpk) (hj25_l23.ro hsb (fun b hb hb2 => pick_out hms 1 rfl [some 0, some 3, some 4] ([] ++ [[b2], [b19], M]) rfl rfl b hb (fl_unfold b hb2))) (hj34_l32.ro hsb (fun b hb hb2 => pick_out hms 2 rfl [some 0, some 3, some 4] ([] ++ [[b2], [b19], M]) rfl rfl b hb (fl_unfold b hb2))) hx
 refine x_call 47 #[] #[] [.agg #[Vi (IntKind.i64.wrap x17), Vl a25_l23 d25_l23 c25_l23, Vl a34_l32 d34_l32 c34_l32]] _ rfl rfl rfl rfl hcall ?_
 rintro v w43 ⟨rfl, he43⟩
 clear hcall hx
 refine inl1 ?_
 have hst := Stp.ext (ls := [[b2], blk a25_l23, blk a34_l32, [b19], M]) he43
 replace hb2 := he43.box hb2 nn
 replace hb19 := he43.box hb19 nn
 replace hj25_l23 := hj25_l23.step hst he43 nn2
 replace hj34_l32 := hj34_l32.step hst he43 nn2
 replace hms := hms.ev he43
 replace hev := hev.ext he43
 clear hpk hsb hsb0
 refine x_u 1 [(9, Vi x42)] ?_
 refine x_ek ?_
 refine c_sp ?_
 refine x_u 2 [(104, Vi x42), (105, .bool (x42 != 0))] ?_
 refine x_ek ?_
 refine c_if (x42 != 0) rfl h (fun h => ?_) (fun h => ?_)
 · refine c_sp ?_
   refine x_build (vs := []) (.agg #[Vi 0, .slice none 0 0, .slice none 0 0]) rfl rfl rfl (fun _ _ => by kernel_rfl) ?_
   refine x_u 1 [(107, Vi x42)] ?_
   obtain ⟨w44, hr44, hb44, he44⟩ := store_boxagg 0 [Vi 0, .slice none 0 0, .slice none 0 0] #[Vi 0, .slice none 0 0, .slice none 0 0] tagg29 hb2 rfl rfl rfl
   refine x_store w44 (xv := Vp b2 0) (yv := .agg #[Vi 0, .slice none 0 0, .slice none 0 0]) rfl rfl rfl rfl hr44 ?_
   refine inl1 ?_
   have hst := Stp.ev' (ls := [[b2], blk a25_l23, blk a34_l32, [b19], M]) he44 (mem_flat 0 rfl)
   replace hb19 := he44.box hb19 (hms.apart 3 0 rfl rfl rfl _ mem1)
   replace hj25_l23 := hj25_l23.step hst he44 (hms.apart 1 0 rfl rfl rfl)
   replace hj34_l32 := hj34_l32.step hst he44 (hms.apart 2 0 rfl rfl rfl)
   replace hms := hms.ev he44
   replace hev := hev.then he44 (fun b hb => .inr (hfr.at 0 rfl b hb))
   replace hb2 := hb44
   refine x_u 1 [(3, Vi x42)] ?_
   refine x_ek ?_
   refine c_ret ?_
   refine k_then_ret ?_
   refine r_ret (r_vals [.agg #[Vi 0, .slice none 0 0, .slice none 0 0], Vi x42] ⟨⟨_, rfl, loadVar_of_reads (reads_boxagg (Mo := []) 0 [Vi 0, .slice none 0 0, .slice none 0 0] tagg29 hb2 nn rfl)⟩, rfl, trivial⟩ ?_)
   have hx := some_inj h
   subst hx
   have hmr : MS w44 [blk none, blk none, M] := hms.pick [none, none, some 4] _ rfl
   have hsu : ∀ x ∈ fl [blk none, blk none, M], x ∈ fl [[b2], blk a25_l23, blk a34_l32, [b19], M] := pick_sub [none, none, some 4] _ rfl
   have hfe : FR w.heap.size [blk none, blk none] := hfr.pick [none, none] _ rfl
   exact ⟨none, 0, none, 0, rfl, hev, hmr, hfe, OwnS.nil _ _ _ _, OwnS.nil _ _ _ _⟩
 refine c_skip ?_
 refine k_then ?_
 refine c_sp ?_
 refine x_load (xv := Vp b19 0) (.agg #[Vi (IntKind.i64.wrap x17), Vl a25_l23 d25_l23 c25_l23, Vl a34_l32 d34_l32 c34_l32]) rfl rfl rfl (reads_boxagg 0 [Vi (IntKind.i64.wrap x17), Vl a25_l23 d25_l23 c25_l23, Vl a34_l32 d34_l32 c34_l32] tagg29 hb19 nn rfl) ?_
 obtain ⟨w45, hr45, hb45, he45⟩ := store_boxagg 0 [Vi (IntKind.i64.wrap x17), Vl a25_l23 d25_l23 c25_l23, Vl a34_l32 d34_l32 c34_l32] #[Vi (IntKind.i64.wrap x17), Vl a25_l23 d25_l23 c25_l23, Vl a34_l32 d34_l32 c34_l32] tagg29 hb2 rfl rfl rfl
 refine x_store w45 (xv := Vp b2 0) (yv := .agg #[Vi (IntKind.i64.wrap x17), Vl a25_l23 d25_l23 c25_l23, Vl a34_l32 d34_l32 c34_l32]) rfl rfl rfl rfl hr45 ?_
 refine inl1 ?_
 have hst := Stp.ev' (ls := [[b2], blk a25_l23, blk a34_l32, [b19], M]) he45 (mem_flat 0 rfl)
 replace hb19 := he45.box hb19 (hms.apart 3 0 rfl rfl rfl _ mem1)
 replace hj25_l23 := hj25_l23.step hst he45 (hms.apart 1 0 rfl rfl rfl)
 replace hj34_l32 := hj34_l32.step hst he45 (hms.apart 2 0 rfl rfl rfl)
 replace hms := hms.ev he45
 replace hev := hev.then he45 (fun b hb => .inr (hfr.at 0 rfl b hb))
 replace hb2 := hb45
 refine x_u 1 [(3, Vi 0)] ?_
 refine x_ek ?_
 refine c_ret ?_
 refine r_ret (r_vals [.agg #[Vi (IntKind.i64.wrap x17), Vl a25_l23 d25_l23 c25_l23, Vl a34_l32 d34_l32 c34_l32], Vi 0] ⟨⟨_, rfl, loadVar_of_reads (reads_boxagg (Mo := []) 0 [Vi (IntKind.i64.wrap x17), Vl a25_l23 d25_l23 c25_l23, Vl a34_l32 d34_l32 c34_l32] tagg29 hb2 nn rfl)⟩, rfl, trivial⟩ ?_)
 have hx := some_inj h
 subst hx
 have hmr : MS w45 [blk a25_l23, blk a34_l32, M] := hms.pick [some 1, some 2, some 4] _ rfl
 have hsu : ∀ x ∈ fl [blk a25_l23, blk a34_l32, M], x ∈ fl [[b2], blk a25_l23, blk a34_l32, [b19], M] := pick_sub [some 1, some 2, some 4] _ rfl
 have hfe : FR w.heap.size [blk a25_l23, blk a34_l32] := hfr.pick [some 1, some 2] _ rfl
 exact ⟨a25_l23, c25_l23, a34_l32, c34_l32, rfl, hev, hmr, hfe, hj25_l23.sub hsu, hj34_l32.sub hsu⟩
end Go.Proofs.Ytcignnfdpgeogaa
