/- Walks, printed by program: each function returns what the partial function of the same name returns. Conditions: those of each theorem. -/
import Derived.Test.YtcignnfdpgeogaaGT
import Derived.Test.YtcignnfdpgeogaaGr11
import Derived.Test.YtcignnfdpgeogaaGr12
import Derived.Test.YtcignnfdpgeogaaGr13
import Derived.Test.YtcignnfdpgeogaaGr14
set_option linter.unusedVariables false
set_option linter.unusedSimpArgs false
set_option maxRecDepth 4000
namespace Go.Proofs.Ytcignnfdpgeogaa
open Go Go.V Go.Proofs
def r15_Make (p0_0 : List (Int × Int × Int × Int)) (p0_1 : Int) : Option (((Int × (List Int)) × (List Int)) × Int) :=
((r13_Least p0_0 p0_1).bind fun x6 =>
(if (x6.2 != 0) = true then
some (((0, []), []), x6.2)
else
((r13_Witness p0_0 p0_1).bind fun x14 =>
some (((x6.1.1, x6.1.2), x14.1), 0))))

theorem r15_Make_w (a_p0_0 : Option Addr) (c_p0_0 : Nat) (p0_0 : List (Int × Int × Int × Int)) (p0_1 : Int) (r : ((Int × (List Int)) × (List Int)) × Int) (w : World) (M : List Nat) (hms : MS w [M]) (hs_p0_0 : SlR (eIt4) w (fl [M]) a_p0_0 c_p0_0 p0_0) (h : r15_Make p0_0 p0_1 = some r) : CallVC Try.prog 11 [.agg #[.slice a_p0_0 (p0_0).length c_p0_0, Vi p0_1]] w fun v w' => ∃ (a0' : Option Addr), ∃ (c0' : Nat), ∃ (a2' : Option Addr), ∃ (c2' : Nat), v = .tuple #[.agg #[Vi r.1.1.1, .slice a0' (r.1.1.2).length c0', .slice a2' (r.1.2).length c2'], Vi r.2] ∧ Ev [] w w' ∧ MS w' [blk a0', blk a2', M] ∧ FR w.heap.size [blk a0', blk a2'] ∧ OwnS (eInt .i64) 3 w' (fl [blk a0', blk a2', M]) a0' c0' r.1.1.2 ∧ OwnS (eInt .i64) 3 w' (fl [blk a0', blk a2', M]) a2' c2' r.1.2 := by
 refine calls_vc hmx Try.func11 (by kernel_rfl) rfl (rs := [.cell 2 29, .tmp 3]) rfl (by kernel_rfl) (args := [.agg #[.slice a_p0_0 (p0_0).length c_p0_0, Vi p0_1]]) rfl ?_
 have hev : Ev [] w w := Ev.refl _ _
 have hfr : FR w.heap.size [] := FR.nil _
 refine c_sp ?_
 refine x_box (xv := .agg #[.slice a_p0_0 (p0_0).length c_p0_0, Vi p0_1]) rfl rfl rfl (fun b2 w2 hq2 hb2 he2 hz2 => ?_)
 replace hb2 : w2.heap[b2]? = some (.cells #[.slice a_p0_0 (p0_0).length c_p0_0, Vi p0_1] 25 (0, 0)) := hb2
 refine inl1 ?_
 have hst := Stp.box (ls := [M]) he2 hq2
 replace hs_p0_0 := hs_p0_0.step hst
 replace hms := hms.box he2 hq2 hb2
 replace hfr := hfr.box hev.size hq2
 replace hev := hev.ext he2
 refine x_alloc (z := .agg #[Vi 0, .slice none 0 0, .slice none 0 0]) rfl rfl (by kernel_rfl) (fun b4 w4 hq4 hb4 he4 hz4 => ?_)
 replace hb4 : w4.heap[b4]? = some (.cells #[Vi 0, .slice none 0 0, .slice none 0 0] 29 (0, 0)) := hb4
 refine inl1 ?_
 have hst := Stp.box (ls := [[b2], M]) he4 hq4
 replace hs_p0_0 := hs_p0_0.step hst
 replace hb2 := he4.box hb2 nn
 replace hms := hms.box he4 hq4 hb4
 replace hfr := hfr.box hev.size hq4
 replace hev := hev.ext he4
 refine x_pure 1 [(3, Vi 0)] _ _ _ (by kernel_rfl) ?_
 refine x_ek ?_
 refine c_sp ?_
 refine x_load (xv := Vp b2 0) (.agg #[.slice a_p0_0 (p0_0).length c_p0_0, Vi p0_1]) rfl rfl rfl (reads_boxagg 0 [.slice a_p0_0 (p0_0).length c_p0_0, Vi p0_1] tagg25 hb2 nn rfl) ?_
 obtain ⟨x6, hx, h⟩ := bind_some h
 have hpk : MS w4 ([] ++ [[b4], [b2], M]) := hms.pick [some 0, some 1, some 2] _ rfl
 have hsb0 : ∀ x ∈ fl ([] ++ [[b4], [b2], M]), x ∈ fl [[b4], [b2], M] := pick_sub [some 0, some 1, some 2] _ rfl
 have hsb : ∀ x ∈ fl ([] ++ [(fl [[b4], [b2], M])]), x ∈ fl [[b4], [b2], M] := fun x hx => hsb0 x (fl_unfold x hx)
 have hcall := r13_Least_w a_p0_0 c_p0_0 p0_0 p0_1 _ w4 (fl [[b4], [b2], M]) (MS.fold (P := []) hpk) (hs_p0_0.sub hsb) hx
 refine x_call 33 #[] #[] [.agg #[.slice a_p0_0 (p0_0).length c_p0_0, Vi p0_1]] _ rfl rfl rfl rfl hcall ?_
 rintro v w7 ⟨a0_7, c0_7, rfl, he7, hmn7, hfn7, hf7_1⟩
 clear hcall hx
 refine inl1 ?_
 have hpk2 : MS w4 ([] ++ [[b4], [b2], M]) := hms.pick [some 0, some 1, some 2] _ rfl
 have hsb2 : ∀ x ∈ fl ([] ++ [[b4], [b2], M]), x ∈ fl [[b4], [b2], M] := pick_sub [some 0, some 1, some 2] _ rfl
 have hst0 := Stp.call (LS := [[b4], [b2], M]) (res := [blk a0_7]) (par := []) (R := [[b4], [b2], M]) he7 (fun b hb => hsb2 b (fl_left' (P := []) b hb)) hfn7 (NP.init _ _) (fun x hx => hsb2 x (fl_right' (P := []) x hx))
 have hsn : ∀ x ∈ fl [blk a0_7, [b4], [b2], M], x ∈ fl ([blk a0_7] ++ ([] ++ [[b4], [b2], M])) := pick_sub [some 0, some 1, some 2, some 3] _ rfl
 have hst := hst0.res hsn
 replace hs_p0_0 := hs_p0_0.step hst
 replace hb2 := he7.box hb2 ((MS.outs (P := []) hpk2 1 rfl) _ mem1)
 replace hb4 := he7.box hb4 ((MS.outs (P := []) hpk2 0 rfl) _ mem1)
 replace hms : MS w7 [blk a0_7, [b4], [b2], M] := (MS.call (P := []) (R := [[b4], [b2], M]) (res := [blk a0_7]) (par := []) hpk2 he7 hmn7 hfn7 (NP.init _ _)).pick [some 0, some 1, some 2, some 3] _ rfl
 have hfr2 : FR w.heap.size [blk a0_7, [b4], [b2]] := (FR.cons (fun b hb => Nat.le_trans hev.size (hfn7.at 0 rfl b hb)) (FR.cons (hfr.at 0 rfl) (FR.cons (hfr.at 1 rfl) (FR.nil _))))
 replace hev := hev.ext he7
 replace hfr := hfr2
 clear hfr2
 replace hf7_1 := OwnS.plain (M' := fl [blk a0_7, [b4], [b2], M]) (plain_int _) hf7_1
 clear hpk hsb hsb0 hpk2 hsb2 hst0 hsn hst
 refine x_pure 3 [(8, .tuple #[.agg #[Vi x6.1.1, .slice a0_7 (x6.1.2).length c0_7], Vi x6.2]), (11, .agg #[Vi x6.1.1, .slice a0_7 (x6.1.2).length c0_7]), (12, Vi x6.2)] _ _ _ (by kernel_rfl) ?_
 refine x_alloc (z := .agg #[Vi 0, .slice none 0 0]) rfl rfl (by kernel_rfl) (fun b9 w9 hq9 hb9 he9 hz9 => ?_)
 replace hb9 : w9.heap[b9]? = some (.cells #[Vi 0, .slice none 0 0] 27 (0, 0)) := hb9
 refine inl1 ?_
 have hst := Stp.box (ls := [blk a0_7, [b4], [b2], M]) he9 hq9
 replace hs_p0_0 := hs_p0_0.step hst
 replace hb2 := he9.box hb2 nn
 replace hb4 := he9.box hb4 nn
 replace hf7_1 := hf7_1.step hst he9 nn2
 replace hms := hms.box he9 hq9 hb9
 replace hfr := hfr.box hev.size hq9
 replace hev := hev.ext he9
 obtain ⟨w11, hr11, hb11, he11⟩ := store_boxagg 0 [Vi x6.1.1, .slice a0_7 (x6.1.2).length c0_7] #[Vi x6.1.1, .slice a0_7 (x6.1.2).length c0_7] tagg27 hb9 rfl rfl rfl
 refine x_store w11 (xv := Vp b9 0) (yv := .agg #[Vi x6.1.1, .slice a0_7 (x6.1.2).length c0_7]) rfl rfl rfl rfl hr11 ?_
 refine inl1 ?_
 have hst := Stp.ev' (ls := [[b9], blk a0_7, [b4], [b2], M]) he11 (mem_flat 0 rfl)
 replace hs_p0_0 := hs_p0_0.step hst
 replace hb2 := he11.box hb2 (hms.apart 3 0 rfl rfl rfl _ mem1)
 replace hb4 := he11.box hb4 (hms.apart 2 0 rfl rfl rfl _ mem1)
 replace hf7_1 := hf7_1.step hst he11 (hms.apart 1 0 rfl rfl rfl)
 replace hms := hms.ev he11
 replace hev := hev.then he11 (fun b hb => .inr (hfr.at 0 rfl b hb))
 replace hb9 := hb11
 refine x_pure 1 [(5, Vi x6.2)] _ _ _ (by kernel_rfl) ?_
 refine x_ek ?_
 refine c_seq ?_
 refine c_sp ?_
 refine x_pure 2 [(13, Vi x6.2), (14, .bool (x6.2 != 0))] _ _ _ (by kernel_rfl) ?_
 refine x_ek ?_
 refine c_cond (x6.2 != 0) rfl (fun hb => ?_) (fun hb => ?_)
 · replace h := ite_t hb h
   refine c_sp ?_
   refine x_build (vs := []) (.agg #[Vi 0, .slice none 0 0, .slice none 0 0]) rfl rfl rfl (fun _ _ => by kernel_rfl) ?_
   refine x_pure 1 [(16, Vi x6.2)] _ _ _ (by kernel_rfl) ?_
   obtain ⟨w13, hr13, hb13, he13⟩ := store_boxagg 0 [Vi 0, .slice none 0 0, .slice none 0 0] #[Vi 0, .slice none 0 0, .slice none 0 0] tagg29 hb4 rfl rfl rfl
   refine x_store w13 (xv := Vp b4 0) (yv := .agg #[Vi 0, .slice none 0 0, .slice none 0 0]) rfl rfl rfl rfl hr13 ?_
   refine inl1 ?_
   have hst := Stp.ev' (ls := [[b9], blk a0_7, [b4], [b2], M]) he13 (mem_flat 2 rfl)
   replace hs_p0_0 := hs_p0_0.step hst
   replace hb2 := he13.box hb2 (hms.apart 3 2 rfl rfl rfl _ mem1)
   replace hf7_1 := hf7_1.step hst he13 (hms.apart 1 2 rfl rfl rfl)
   replace hb9 := he13.box hb9 (hms.apart 0 2 rfl rfl rfl _ mem1)
   replace hms := hms.ev he13
   replace hev := hev.then he13 (fun b hb => .inr (hfr.at 2 rfl b hb))
   replace hb4 := hb13
   refine x_pure 1 [(3, Vi x6.2)] _ _ _ (by kernel_rfl) ?_
   refine x_ek ?_
   refine c_norm [(2, Vp b4 0), (3, Vi x6.2)] ⟨rfl, rfl, trivial⟩ (fun J => ?_)
   refine c_ret ?_
   refine k_then_ret ?_
   refine r_ret (r_vals [.agg #[Vi 0, .slice none 0 0, .slice none 0 0], Vi x6.2] ⟨⟨_, rfl, loadVar_of_reads (reads_boxagg (Mo := []) 0 [Vi 0, .slice none 0 0, .slice none 0 0] tagg29 hb4 nn rfl)⟩, rfl, trivial⟩ ?_)
   have hx := some_inj h
   subst hx
   have hmr : MS w13 [blk none, blk none, M] := hms.pick [none, none, some 4] _ rfl
   have hsu : ∀ x ∈ fl [blk none, blk none, M], x ∈ fl [[b9], blk a0_7, [b4], [b2], M] := pick_sub [none, none, some 4] _ rfl
   have hfe : FR w.heap.size [blk none, blk none] := hfr.pick [none, none] _ rfl
   exact ⟨none, 0, none, 0, rfl, hev, hmr, hfe, OwnS.nil _ _ _ _, OwnS.nil _ _ _ _⟩
 replace h := ite_f hb h
 refine c_skip ?_
 refine k_then ?_
 refine c_sp ?_
 refine x_load (xv := Vp b2 0) (.agg #[.slice a_p0_0 (p0_0).length c_p0_0, Vi p0_1]) rfl rfl rfl (reads_boxagg 0 [.slice a_p0_0 (p0_0).length c_p0_0, Vi p0_1] tagg25 hb2 nn rfl) ?_
 obtain ⟨x14, hx, h⟩ := bind_some h
 have hpk : MS w11 ([] ++ [[b9], blk a0_7, [b4], [b2], M]) := hms.pick [some 0, some 1, some 2, some 3, some 4] _ rfl
 have hsb0 : ∀ x ∈ fl ([] ++ [[b9], blk a0_7, [b4], [b2], M]), x ∈ fl [[b9], blk a0_7, [b4], [b2], M] := pick_sub [some 0, some 1, some 2, some 3, some 4] _ rfl
 have hsb : ∀ x ∈ fl ([] ++ [(fl [[b9], blk a0_7, [b4], [b2], M])]), x ∈ fl [[b9], blk a0_7, [b4], [b2], M] := fun x hx => hsb0 x (fl_unfold x hx)
 have hcall := r13_Witness_w a_p0_0 c_p0_0 p0_0 p0_1 _ w11 (fl [[b9], blk a0_7, [b4], [b2], M]) (MS.fold (P := []) hpk) (hs_p0_0.sub hsb) hx
 refine x_call 34 #[] #[] [.agg #[.slice a_p0_0 (p0_0).length c_p0_0, Vi p0_1]] _ rfl rfl rfl rfl hcall ?_
 rintro v w15 ⟨a0_15, c0_15, rfl, he15, hmn15, hfn15, hf15_1⟩
 clear hcall hx
 refine inl1 ?_
 have hpk2 : MS w11 ([] ++ [[b9], blk a0_7, [b4], [b2], M]) := hms.pick [some 0, some 1, some 2, some 3, some 4] _ rfl
 have hsb2 : ∀ x ∈ fl ([] ++ [[b9], blk a0_7, [b4], [b2], M]), x ∈ fl [[b9], blk a0_7, [b4], [b2], M] := pick_sub [some 0, some 1, some 2, some 3, some 4] _ rfl
 have hst0 := Stp.call (LS := [[b9], blk a0_7, [b4], [b2], M]) (res := [blk a0_15]) (par := []) (R := [[b9], blk a0_7, [b4], [b2], M]) he15 (fun b hb => hsb2 b (fl_left' (P := []) b hb)) hfn15 (NP.init _ _) (fun x hx => hsb2 x (fl_right' (P := []) x hx))
 have hsn : ∀ x ∈ fl [blk a0_15, [b9], blk a0_7, [b4], [b2], M], x ∈ fl ([blk a0_15] ++ ([] ++ [[b9], blk a0_7, [b4], [b2], M])) := pick_sub [some 0, some 1, some 2, some 3, some 4, some 5] _ rfl
 have hst := hst0.res hsn
 replace hs_p0_0 := hs_p0_0.step hst
 replace hb2 := he15.box hb2 ((MS.outs (P := []) hpk2 3 rfl) _ mem1)
 replace hb4 := he15.box hb4 ((MS.outs (P := []) hpk2 2 rfl) _ mem1)
 replace hf7_1 := hf7_1.step hst he15 (MS.outs (P := []) hpk2 1 rfl)
 replace hb9 := he15.box hb9 ((MS.outs (P := []) hpk2 0 rfl) _ mem1)
 replace hms : MS w15 [blk a0_15, [b9], blk a0_7, [b4], [b2], M] := (MS.call (P := []) (R := [[b9], blk a0_7, [b4], [b2], M]) (res := [blk a0_15]) (par := []) hpk2 he15 hmn15 hfn15 (NP.init _ _)).pick [some 0, some 1, some 2, some 3, some 4, some 5] _ rfl
 have hfr2 : FR w.heap.size [blk a0_15, [b9], blk a0_7, [b4], [b2]] := (FR.cons (fun b hb => Nat.le_trans hev.size (hfn15.at 0 rfl b hb)) (FR.cons (hfr.at 0 rfl) (FR.cons (hfr.at 1 rfl) (FR.cons (hfr.at 2 rfl) (FR.cons (hfr.at 3 rfl) (FR.nil _))))))
 replace hev := hev.ext he15
 replace hfr := hfr2
 clear hfr2
 replace hf15_1 := OwnS.plain (M' := fl [blk a0_15, [b9], blk a0_7, [b4], [b2], M]) (plain_int _) hf15_1
 clear hpk hsb hsb0 hpk2 hsb2 hst0 hsn hst
 refine x_pure 5 [(17, .tuple #[.slice a0_15 (x14.1).length c0_15, Vi x14.2]), (20, .slice a0_15 (x14.1).length c0_15), (21, Vi x14.2), (6, .slice a0_15 (x14.1).length c0_15), (7, Vi x14.2)] _ _ _ (by kernel_rfl) ?_
 refine x_ek ?_
 refine c_norm [(2, Vp b4 0), (4, Vp b9 0), (6, .slice a0_15 (x14.1).length c0_15)] ⟨rfl, rfl, rfl, trivial⟩ (fun J => ?_)
 refine c_sp ?_
 refine x_load (xv := Vp b9 0) (.agg #[Vi x6.1.1, .slice a0_7 (x6.1.2).length c0_7]) rfl rfl rfl (reads_boxagg 0 [Vi x6.1.1, .slice a0_7 (x6.1.2).length c0_7] tagg27 hb9 nn rfl) ?_
 refine x_pure 1 [(23, .slice a0_15 (x14.1).length c0_15)] _ _ _ (by kernel_rfl) ?_
 refine x_build (vs := [(0, .agg #[Vi x6.1.1, .slice a0_7 (x6.1.2).length c0_7]), (1, .slice a0_15 (x14.1).length c0_15)]) (.agg #[Vi x6.1.1, .slice a0_7 (x6.1.2).length c0_7, .slice a0_15 (x14.1).length c0_15]) rfl rfl rfl (fun _ _ => by kernel_rfl) ?_
 obtain ⟨w17, hr17, hb17, he17⟩ := store_boxagg 0 [Vi x6.1.1, .slice a0_7 (x6.1.2).length c0_7, .slice a0_15 (x14.1).length c0_15] #[Vi x6.1.1, .slice a0_7 (x6.1.2).length c0_7, .slice a0_15 (x14.1).length c0_15] tagg29 hb4 rfl rfl rfl
 refine x_store w17 (xv := Vp b4 0) (yv := .agg #[Vi x6.1.1, .slice a0_7 (x6.1.2).length c0_7, .slice a0_15 (x14.1).length c0_15]) rfl rfl rfl rfl hr17 ?_
 refine inl1 ?_
 have hst := Stp.ev' (ls := [blk a0_15, [b9], blk a0_7, [b4], [b2], M]) he17 (mem_flat 3 rfl)
 replace hs_p0_0 := hs_p0_0.step hst
 replace hb2 := he17.box hb2 (hms.apart 4 3 rfl rfl rfl _ mem1)
 replace hf7_1 := hf7_1.step hst he17 (hms.apart 2 3 rfl rfl rfl)
 replace hb9 := he17.box hb9 (hms.apart 1 3 rfl rfl rfl _ mem1)
 replace hf15_1 := hf15_1.step hst he17 (hms.apart 0 3 rfl rfl rfl)
 replace hms := hms.ev he17
 replace hev := hev.then he17 (fun b hb => .inr (hfr.at 3 rfl b hb))
 replace hb4 := hb17
 refine x_pure 1 [(3, Vi 0)] _ _ _ (by kernel_rfl) ?_
 refine x_ek ?_
 refine c_ret ?_
 refine r_ret (r_vals [.agg #[Vi x6.1.1, .slice a0_7 (x6.1.2).length c0_7, .slice a0_15 (x14.1).length c0_15], Vi 0] ⟨⟨_, rfl, loadVar_of_reads (reads_boxagg (Mo := []) 0 [Vi x6.1.1, .slice a0_7 (x6.1.2).length c0_7, .slice a0_15 (x14.1).length c0_15] tagg29 hb4 nn rfl)⟩, rfl, trivial⟩ ?_)
 have hx := some_inj h
 subst hx
 have hmr : MS w17 [blk a0_7, blk a0_15, M] := hms.pick [some 2, some 0, some 5] _ rfl
 have hsu : ∀ x ∈ fl [blk a0_7, blk a0_15, M], x ∈ fl [blk a0_15, [b9], blk a0_7, [b4], [b2], M] := pick_sub [some 2, some 0, some 5] _ rfl
 have hfe : FR w.heap.size [blk a0_7, blk a0_15] := hfr.pick [some 2, some 0] _ rfl
 exact ⟨a0_7, c0_7, a0_15, c0_15, rfl, hev, hmr, hfe, hf7_1.sub hsu, hf15_1.sub hsu⟩
def r15_Check_L14 (p0_0 : List (Int × Int × Int × Int)) (p0_1 : Int) (p1_0_1 : List Int) (x_s7_l12 : Int) (s : Int) : Option (Step Int (Unit ⊕ Unit)) :=
match s with
| y_s8_l14 =>
(if (decide (y_s8_l14 < ((p1_0_1).length : Int))) = true then
((r11_Kind p0_0 p0_1 x_s7_l12 y_s8_l14).bind fun x16 =>
(if (decide (x16 > 0)) = true then
((idx p1_0_1 x_s7_l12).bind fun x18 =>
((idx p1_0_1 y_s8_l14).bind fun x20 =>
((r11_Strict p0_0 p0_1 x_s7_l12 y_s8_l14).bind fun x22 =>
(if (decide ((IntKind.i64.wrap (x18 + x22)) > x20)) = true then
some (.done (.inl ()))
else
some (.next (IntKind.i64.wrap (y_s8_l14 + 1)))))))
else
some (.next (IntKind.i64.wrap (y_s8_l14 + 1)))))
else
some (.done (.inr ())))

def r15_Check_L12 (p0_0 : List (Int × Int × Int × Int)) (p0_1 : Int) (p1_0_1 : List Int) (s : Int) : Option (Step Int (Unit ⊕ Unit)) :=
match s with
| x_s7_l12 =>
(if (decide (x_s7_l12 < ((p1_0_1).length : Int))) = true then
((loop (r15_Check_L14 p0_0 p0_1 p1_0_1 x_s7_l12) 0).bind fun d => match d with
| (.inl _) => some (.done (.inl ()))
| (.inr _) => some (.next (IntKind.i64.wrap (x_s7_l12 + 1))))
else
some (.done (.inr ())))

def r15_Check (p0_0 : List (Int × Int × Int × Int)) (p0_1 : Int) (p1_0_0 : Int) (p1_0_1 : List Int) (p1_1 : List Int) : Option Int :=
((r14_Valid p0_0 p0_1 p1_0_0 p1_0_1).bind fun x9 =>
(if (x9 != 0) = true then
some x9
else
((loop (r15_Check_L12 p0_0 p0_1 p1_0_1) 0).bind fun d => match d with
| (.inl _) => some 12
| (.inr _) => ((r13_Bound p0_0 p0_1 p1_1).bind fun x24 =>
(if (x24.2 != 0) = true then
some x24.2
else
((r12_Long x24.1).bind fun x27 =>
(if (x27 != p1_0_0) = true then
some 17
else
some 0)))))))

theorem r15_Check_w (a_p0_0 : Option Addr) (c_p0_0 : Nat) (p0_0 : List (Int × Int × Int × Int)) (p0_1 : Int) (p1_0_0 : Int) (a_p1_0_1 : Option Addr) (c_p1_0_1 : Nat) (p1_0_1 : List Int) (a_p1_1 : Option Addr) (c_p1_1 : Nat) (p1_1 : List Int) (r : Int) (w : World) (M : List Nat) (hms : MS w [M]) (hs_p0_0 : SlR (eIt4) w (fl [M]) a_p0_0 c_p0_0 p0_0) (hs_p1_0_1 : SlR (eInt .i64) w (fl [M]) a_p1_0_1 c_p1_0_1 p1_0_1) (hs_p1_1 : SlR (eInt .i64) w (fl [M]) a_p1_1 c_p1_1 p1_1) (h : r15_Check p0_0 p0_1 p1_0_0 p1_0_1 p1_1 = some r) : CallVC Try.prog 15 [.agg #[.slice a_p0_0 (p0_0).length c_p0_0, Vi p0_1], .agg #[Vi p1_0_0, .slice a_p1_0_1 (p1_0_1).length c_p1_0_1, .slice a_p1_1 (p1_1).length c_p1_1]] w fun v w' => v = Vi r ∧ Ev [] w w' := by
 refine calls_vc hmx Try.func15 (by kernel_rfl) rfl (rs := [.tmp 4]) rfl (by kernel_rfl) (args := [.agg #[.slice a_p0_0 (p0_0).length c_p0_0, Vi p0_1], .agg #[Vi p1_0_0, .slice a_p1_0_1 (p1_0_1).length c_p1_0_1, .slice a_p1_1 (p1_1).length c_p1_1]]) rfl ?_
 have hev : Ev [] w w := Ev.refl _ _
 have hfr : FR w.heap.size [] := FR.nil _
 refine c_sp ?_
 refine x_box (xv := .agg #[.slice a_p0_0 (p0_0).length c_p0_0, Vi p0_1]) rfl rfl rfl (fun b4 w4 hq4 hb4 he4 hz4 => ?_)
 replace hb4 : w4.heap[b4]? = some (.cells #[.slice a_p0_0 (p0_0).length c_p0_0, Vi p0_1] 25 (0, 0)) := hb4
 refine inl1 ?_
 have hst := Stp.box (ls := [M]) he4 hq4
 replace hs_p0_0 := hs_p0_0.step hst
 replace hs_p1_0_1 := hs_p1_0_1.step hst
 replace hs_p1_1 := hs_p1_1.step hst
 replace hms := hms.box he4 hq4 hb4
 replace hfr := hfr.box hev.size hq4
 replace hev := hev.ext he4
 refine x_box (xv := .agg #[Vi p1_0_0, .slice a_p1_0_1 (p1_0_1).length c_p1_0_1, .slice a_p1_1 (p1_1).length c_p1_1]) rfl rfl rfl (fun b6 w6 hq6 hb6 he6 hz6 => ?_)
 replace hb6 : w6.heap[b6]? = some (.cells #[Vi p1_0_0, .slice a_p1_0_1 (p1_0_1).length c_p1_0_1, .slice a_p1_1 (p1_1).length c_p1_1] 29 (0, 0)) := hb6
 refine inl1 ?_
 have hst := Stp.box (ls := [[b4], M]) he6 hq6
 replace hs_p0_0 := hs_p0_0.step hst
 replace hs_p1_0_1 := hs_p1_0_1.step hst
 replace hs_p1_1 := hs_p1_1.step hst
 replace hb4 := he6.box hb4 nn
 replace hms := hms.box he6 hq6 hb6
 replace hfr := hfr.box hev.size hq6
 replace hev := hev.ext he6
 refine x_pure 1 [(4, Vi 0)] _ _ _ (by kernel_rfl) ?_
 refine x_ek ?_
 refine c_seq ?_
 refine c_sp ?_
 refine x_load (xv := Vp b4 0) (.agg #[.slice a_p0_0 (p0_0).length c_p0_0, Vi p0_1]) rfl rfl rfl (reads_boxagg 0 [.slice a_p0_0 (p0_0).length c_p0_0, Vi p0_1] tagg25 hb4 nn rfl) ?_
 refine x_fieldAddr (xv := Vp b6 0) (Vp b6 0) rfl rfl rfl (reads_field tfld29_0 _ _) ?_
 refine x_load (xv := Vp b6 0) (.agg #[Vi p1_0_0, .slice a_p1_0_1 (p1_0_1).length c_p1_0_1]) rfl rfl rfl (reads_boxagg 0 [Vi p1_0_0, .slice a_p1_0_1 (p1_0_1).length c_p1_0_1] tagg27 hb6 nn rfl) ?_
 obtain ⟨x9, hx, h⟩ := bind_some h
 have hpk : MS w6 ([] ++ [[b6], [b4], M]) := hms.pick [some 0, some 1, some 2] _ rfl
 have hsb0 : ∀ x ∈ fl ([] ++ [[b6], [b4], M]), x ∈ fl [[b6], [b4], M] := pick_sub [some 0, some 1, some 2] _ rfl
 have hsb : ∀ x ∈ fl ([] ++ [(fl [[b6], [b4], M])]), x ∈ fl [[b6], [b4], M] := fun x hx => hsb0 x (fl_unfold x hx)
 have hcall := r14_Valid_w a_p0_0 c_p0_0 p0_0 p0_1 p1_0_0 a_p1_0_1 c_p1_0_1 p1_0_1 _ w6 (fl [[b6], [b4], M]) (MS.fold (P := []) hpk) (hs_p0_0.sub hsb) (hs_p1_0_1.sub hsb) hx
 refine x_call 42 #[] #[] [.agg #[.slice a_p0_0 (p0_0).length c_p0_0, Vi p0_1], .agg #[Vi p1_0_0, .slice a_p1_0_1 (p1_0_1).length c_p1_0_1]] _ rfl rfl rfl rfl hcall ?_
 rintro v w10 ⟨rfl, he10⟩
 clear hcall hx
 refine inl1 ?_
 have hst := Stp.ext (ls := [[b6], [b4], M]) he10
 replace hs_p0_0 := hs_p0_0.step hst
 replace hs_p1_0_1 := hs_p1_0_1.step hst
 replace hs_p1_1 := hs_p1_1.step hst
 replace hb4 := he10.box hb4 nn
 replace hb6 := he10.box hb6 nn
 replace hms := hms.ev he10
 replace hev := hev.ext he10
 clear hpk hsb hsb0
 refine x_pure 1 [(5, Vi x9)] _ _ _ (by kernel_rfl) ?_
 refine x_ek ?_
 refine c_sp ?_
 refine x_pure 2 [(15, Vi x9), (16, .bool (x9 != 0))] _ _ _ (by kernel_rfl) ?_
 refine x_ek ?_
 refine c_cond (x9 != 0) rfl (fun hb => ?_) (fun hb => ?_)
 · replace h := ite_t hb h
   refine c_sp ?_
   refine x_pure 2 [(17, Vi x9), (4, Vi x9)] _ _ _ (by kernel_rfl) ?_
   refine x_ek ?_
   refine c_ret ?_
   refine k_then_ret ?_
   refine r_ret (r_vals [Vi x9] ⟨rfl, trivial⟩ ?_)
   have hx := some_inj h
   subst hx
   have hmr : MS w10 [M] := hms.pick [some 2] _ rfl
   have hsu : ∀ x ∈ fl [M], x ∈ fl [[b6], [b4], M] := pick_sub [some 2] _ rfl
   exact ⟨rfl, hev⟩
 replace h := ite_f hb h
 refine c_skip ?_
 refine k_then ?_
 refine c_sp ?_
 refine x_fieldAddr (xv := Vp b6 0) (Vp b6 0) rfl rfl rfl (reads_field tfld29_0 _ _) ?_
 refine x_fieldAddr (xv := Vp b6 0) (Vp b6 1) rfl rfl rfl (reads_field tfld27_1 _ _) ?_
 refine x_load (xv := Vp b6 1) (.slice a_p1_0_1 (p1_0_1).length c_p1_0_1) rfl rfl rfl (reads_box tcell22 hb6 nn 1 _ rfl) ?_
 refine x_pure 1 [(6, .slice a_p1_0_1 (p1_0_1).length c_p1_0_1)] _ _ _ (by kernel_rfl) ?_
 refine x_ek ?_
 refine c_norm [(2, Vp b4 0), (3, Vp b6 0), (6, .slice a_p1_0_1 (p1_0_1).length c_p1_0_1)] ⟨rfl, rfl, rfl, trivial⟩ (fun J => ?_)
 refine c_seq ?_
 refine c_sp ?_
 refine x_pure 1 [(7, Vi 0)] _ _ _ (by kernel_rfl) ?_
 refine x_ek ?_
 refine c_block ?_
 have hpk : MS w10 [[b4], [b6], M] := hms.pick [some 1, some 0, some 2] _ rfl
 have hsu : ∀ x ∈ fl [[b4], [b6], M], x ∈ fl [[b6], [b4], M] := pick_sub [some 1, some 0, some 2] _ rfl
 replace hs_p0_0 := hs_p0_0.sub hsu
 replace hs_p1_0_1 := hs_p1_0_1.sub hsu
 replace hs_p1_1 := hs_p1_1.sub hsu
 replace hms := hpk
 replace hfr : FR w.heap.size [[b4], [b6]] := hfr.pick [some 1, some 0] _ rfl
 clear hpk hsu
 obtain ⟨d12, hd12, h12⟩ := bind_some h
 obtain ⟨m12, hd12⟩ := loop_some hd12
 refine c_loop (loop_rule hmx (σ := Nat × Int) (fun s => match s with | (_, x_s7_l12) => [(2, Vp b4 0), (3, Vp b6 0), (6, .slice a_p1_0_1 (p1_0_1).length c_p1_0_1), (7, Vi x_s7_l12)]) (fun s w' => match s with | (m, x_s7_l12) => loopN (r15_Check_L12 p0_0 p0_1 p1_0_1) m x_s7_l12 = some d12 ∧ Ev [] w w' ∧ MS w' [[b4], [b6], M] ∧ FR w.heap.size [[b4], [b6]] ∧ SlR (eIt4) w' (fl [[b4], [b6], M]) a_p0_0 c_p0_0 p0_0 ∧ w'.heap[b4]? = some (.cells #[.slice a_p0_0 (p0_0).length c_p0_0, Vi p0_1] 25 (0, 0)) ∧ SlR (eInt .i64) w' (fl [[b4], [b6], M]) a_p1_0_1 c_p1_0_1 p1_0_1 ∧ SlR (eInt .i64) w' (fl [[b4], [b6], M]) a_p1_1 c_p1_1 p1_1 ∧ w'.heap[b6]? = some (.cells #[Vi p1_0_0, .slice a_p1_0_1 (p1_0_1).length c_p1_0_1, .slice a_p1_1 (p1_1).length c_p1_1] 29 (0, 0))) (fun s => s.1) (m12, 0) ⟨rfl, rfl, rfl, rfl, trivial⟩ ⟨hd12, hev, hms, hfr, hs_p0_0, hb4, hs_p1_0_1, hs_p1_1, hb6⟩ ?_)
 rintro ⟨m12, x_s7_l12⟩ J wl12 ⟨hn12, hev, hms, hfr, hs_p0_0, hb4, hs_p1_0_1, hs_p1_1, hb6⟩
 rcases m12 with _ | m12
 · exact (loopN_zero hn12).elim
 obtain ⟨t12, h, hn12⟩ := bind_some hn12
 refine c_seq ?_
 refine c_sp ?_
 refine x_pure 2 [(21, Vi x_s7_l12), (22, .slice a_p1_0_1 (p1_0_1).length c_p1_0_1)] _ _ _ (by kernel_rfl) ?_
 refine x_len (vs := [.slice a_p1_0_1 (p1_0_1).length c_p1_0_1]) (Vi ((p1_0_1).length : Int)) rfl rfl rfl (reads_len tsl22 _ _ _ _ _) ?_
 refine x_pure 1 [(24, .bool (decide (x_s7_l12 < ((p1_0_1).length : Int))))] _ _ _ (by kernel_rfl) ?_
 refine x_ek ?_
 refine c_norm [(2, Vp b4 0), (3, Vp b6 0), (6, .slice a_p1_0_1 (p1_0_1).length c_p1_0_1), (7, Vi x_s7_l12), (24, .bool (decide (x_s7_l12 < ((p1_0_1).length : Int))))] ⟨rfl, rfl, rfl, rfl, rfl, trivial⟩ (fun J => ?_)
 refine c_cond (decide (x_s7_l12 < ((p1_0_1).length : Int))) rfl (fun hb => ?_) (fun hb => ?_)
 · replace h := ite_t hb h
   refine c_skip ?_
   refine k_then ?_
   refine c_seq ?_
   refine c_block ?_
   refine c_sp ?_
   refine x_pure 1 [(8, Vi 0)] _ _ _ (by kernel_rfl) ?_
   refine x_ek ?_
   refine c_block ?_
   obtain ⟨d14, hd14, h14⟩ := bind_some h
   obtain ⟨m14, hd14⟩ := loop_some hd14
   refine c_loop (loop_rule hmx (σ := Nat × Int) (fun s => match s with | (_, y_s8_l14) => [(2, Vp b4 0), (3, Vp b6 0), (6, .slice a_p1_0_1 (p1_0_1).length c_p1_0_1), (7, Vi x_s7_l12), (8, Vi y_s8_l14)]) (fun s w' => match s with | (m, y_s8_l14) => loopN (r15_Check_L14 p0_0 p0_1 p1_0_1 x_s7_l12) m y_s8_l14 = some d14 ∧ Ev [] w w' ∧ MS w' [[b4], [b6], M] ∧ FR w.heap.size [[b4], [b6]] ∧ SlR (eIt4) w' (fl [[b4], [b6], M]) a_p0_0 c_p0_0 p0_0 ∧ w'.heap[b4]? = some (.cells #[.slice a_p0_0 (p0_0).length c_p0_0, Vi p0_1] 25 (0, 0)) ∧ SlR (eInt .i64) w' (fl [[b4], [b6], M]) a_p1_0_1 c_p1_0_1 p1_0_1 ∧ SlR (eInt .i64) w' (fl [[b4], [b6], M]) a_p1_1 c_p1_1 p1_1 ∧ w'.heap[b6]? = some (.cells #[Vi p1_0_0, .slice a_p1_0_1 (p1_0_1).length c_p1_0_1, .slice a_p1_1 (p1_1).length c_p1_1] 29 (0, 0))) (fun s => s.1) (m14, 0) ⟨rfl, rfl, rfl, rfl, rfl, trivial⟩ ⟨hd14, hev, hms, hfr, hs_p0_0, hb4, hs_p1_0_1, hs_p1_1, hb6⟩ ?_)
   rintro ⟨m14, y_s8_l14⟩ J wl14 ⟨hn14, hev, hms, hfr, hs_p0_0, hb4, hs_p1_0_1, hs_p1_1, hb6⟩
   rcases m14 with _ | m14
   · exact (loopN_zero hn14).elim
   obtain ⟨t14, h, hn14⟩ := bind_some hn14
   refine c_seq ?_
   refine c_sp ?_
   refine x_pure 2 [(27, Vi y_s8_l14), (28, .slice a_p1_0_1 (p1_0_1).length c_p1_0_1)] _ _ _ (by kernel_rfl) ?_
   refine x_len (vs := [.slice a_p1_0_1 (p1_0_1).length c_p1_0_1]) (Vi ((p1_0_1).length : Int)) rfl rfl rfl (reads_len tsl22 _ _ _ _ _) ?_
   refine x_pure 1 [(30, .bool (decide (y_s8_l14 < ((p1_0_1).length : Int))))] _ _ _ (by kernel_rfl) ?_
   refine x_ek ?_
   refine c_norm [(2, Vp b4 0), (3, Vp b6 0), (6, .slice a_p1_0_1 (p1_0_1).length c_p1_0_1), (7, Vi x_s7_l12), (8, Vi y_s8_l14), (30, .bool (decide (y_s8_l14 < ((p1_0_1).length : Int))))] ⟨rfl, rfl, rfl, rfl, rfl, rfl, trivial⟩ (fun J => ?_)
   refine c_cond (decide (y_s8_l14 < ((p1_0_1).length : Int))) rfl (fun hb => ?_) (fun hb => ?_)
   · replace h := ite_t hb h
     refine c_skip ?_
     refine k_then ?_
     refine c_seq ?_
     refine c_block ?_
     refine c_seq ?_
     refine c_drawn [] [(0, false), (1, false), (2, false), (3, true), (4, false), (5, false), (6, false), (7, false), (8, false), (9, false), (10, false), (11, false), (12, false), (15, false), (16, false), (17, false), (18, false), (13, false), (14, false), (19, false), (20, false)] _ (by kernel_rfl) rfl ?_
     have hst := Stp.ext (ls := [[b4], [b6], M]) (Ev.drew wl14)
     replace hb4 := (Ev.drew wl14).box hb4 nn
     replace hs_p0_0 := hs_p0_0.step hst
     replace hb6 := (Ev.drew wl14).box hb6 nn
     replace hs_p1_0_1 := hs_p1_0_1.step hst
     replace hs_p1_1 := hs_p1_1.step hst
     replace hms := hms.ev (Ev.drew wl14)
     replace hev := hev.ext (Ev.drew wl14)
     refine x_load (xv := Vp b4 0) (.agg #[.slice a_p0_0 (p0_0).length c_p0_0, Vi p0_1]) rfl rfl rfl (reads_boxagg 0 [.slice a_p0_0 (p0_0).length c_p0_0, Vi p0_1] tagg25 hb4 nn rfl) ?_
     refine x_pure 2 [(34, Vi x_s7_l12), (35, Vi y_s8_l14)] _ _ _ (by kernel_rfl) ?_
     obtain ⟨x16, hx, h⟩ := bind_some h
     have hpk : MS (wl14).drew ([] ++ [[b4], [b6], M]) := hms.pick [some 0, some 1, some 2] _ rfl
     have hsb0 : ∀ x ∈ fl ([] ++ [[b4], [b6], M]), x ∈ fl [[b4], [b6], M] := pick_sub [some 0, some 1, some 2] _ rfl
     have hsb : ∀ x ∈ fl ([] ++ [(fl [[b4], [b6], M])]), x ∈ fl [[b4], [b6], M] := fun x hx => hsb0 x (fl_unfold x hx)
     have hcall := r11_Kind_w a_p0_0 c_p0_0 p0_0 p0_1 x_s7_l12 y_s8_l14 _ (wl14).drew (fl [[b4], [b6], M]) (MS.fold (P := []) hpk) (hs_p0_0.sub hsb) hx
     refine x_call 18 #[] #[] [.agg #[.slice a_p0_0 (p0_0).length c_p0_0, Vi p0_1], Vi x_s7_l12, Vi y_s8_l14] _ rfl rfl rfl rfl hcall ?_
     rintro v w17 ⟨rfl, he17⟩
     clear hcall hx
     refine inl1 ?_
     have hst := Stp.ext (ls := [[b4], [b6], M]) he17
     replace hb4 := he17.box hb4 nn
     replace hs_p0_0 := hs_p0_0.step hst
     replace hb6 := he17.box hb6 nn
     replace hs_p1_0_1 := hs_p1_0_1.step hst
     replace hs_p1_1 := hs_p1_1.step hst
     replace hms := hms.ev he17
     replace hev := hev.ext he17
     clear hpk hsb hsb0
     refine x_pure 2 [(37, .bool (decide (x16 > 0))), (38, .bool (decide (x16 > 0)))] _ _ _ (by kernel_rfl) ?_
     refine x_split 38 (decide (x16 > 0)) rfl (fun hb => ?_) (fun hb => ?_)
     · replace h := ite_t hb h
       refine x_pure 2 [(39, .slice a_p1_0_1 (p1_0_1).length c_p1_0_1), (40, Vi x_s7_l12)] _ _ _ (by kernel_rfl) ?_
       obtain ⟨x18, hx18, h⟩ := bind_some h
       obtain ⟨ad18, cs18, hr18, hc18, hR⟩ := reads_index (Mo := []) tsl22 hs_p1_0_1 hx18
       obtain rfl := hR
       refine x_indexAddr (xv := .slice a_p1_0_1 (p1_0_1).length c_p1_0_1) (yv := Vi x_s7_l12) (.pointer (some ad18)) rfl rfl rfl rfl hr18 ?_
       refine x_load (xv := .pointer (some ad18)) (Vi x18) rfl rfl rfl (reads_cell0 tcell3 hc18 (fun _ h => by cases h)) ?_
       refine x_load (xv := Vp b4 0) (.agg #[.slice a_p0_0 (p0_0).length c_p0_0, Vi p0_1]) rfl rfl rfl (reads_boxagg 0 [.slice a_p0_0 (p0_0).length c_p0_0, Vi p0_1] tagg25 hb4 nn rfl) ?_
       refine x_pure 4 [(44, Vi x_s7_l12), (45, Vi y_s8_l14), (48, .slice a_p1_0_1 (p1_0_1).length c_p1_0_1), (49, Vi y_s8_l14)] _ _ _ (by kernel_rfl) ?_
       obtain ⟨x20, hx20, h⟩ := bind_some h
       obtain ⟨ad20, cs20, hr20, hc20, hR⟩ := reads_index (Mo := []) tsl22 hs_p1_0_1 hx20
       obtain rfl := hR
       refine x_indexAddr (xv := .slice a_p1_0_1 (p1_0_1).length c_p1_0_1) (yv := Vi y_s8_l14) (.pointer (some ad20)) rfl rfl rfl rfl hr20 ?_
       refine x_load (xv := .pointer (some ad20)) (Vi x20) rfl rfl rfl (reads_cell0 tcell3 hc20 (fun _ h => by cases h)) ?_
       obtain ⟨x22, hx, h⟩ := bind_some h
       have hpk : MS w17 ([] ++ [[b4], [b6], M]) := hms.pick [some 0, some 1, some 2] _ rfl
       have hsb0 : ∀ x ∈ fl ([] ++ [[b4], [b6], M]), x ∈ fl [[b4], [b6], M] := pick_sub [some 0, some 1, some 2] _ rfl
       have hsb : ∀ x ∈ fl ([] ++ [(fl [[b4], [b6], M])]), x ∈ fl [[b4], [b6], M] := fun x hx => hsb0 x (fl_unfold x hx)
       have hcall := r11_Strict_w a_p0_0 c_p0_0 p0_0 p0_1 x_s7_l12 y_s8_l14 _ w17 (fl [[b4], [b6], M]) (MS.fold (P := []) hpk) (hs_p0_0.sub hsb) hx
       refine x_call 19 #[] #[] [.agg #[.slice a_p0_0 (p0_0).length c_p0_0, Vi p0_1], Vi x_s7_l12, Vi y_s8_l14] _ rfl rfl rfl rfl hcall ?_
       rintro v w23 ⟨rfl, he23⟩
       clear hcall hx
       refine ⟨.inr he23, ?_⟩
       have hst := Stp.ext (ls := [[b4], [b6], M]) he23
       replace hb4 := he23.box hb4 nn
       replace hs_p0_0 := hs_p0_0.step hst
       replace hb6 := he23.box hb6 nn
       replace hs_p1_0_1 := hs_p1_0_1.step hst
       replace hs_p1_1 := hs_p1_1.step hst
       replace hc18 := hc18.step hst
       replace hc20 := hc20.step hst
       replace hms := hms.ev he23
       replace hev := hev.ext he23
       clear hpk hsb hsb0
       refine x_pure 3 [(47, Vi (IntKind.i64.wrap (x18 + x22))), (52, .bool (decide ((IntKind.i64.wrap (x18 + x22)) > x20))), (53, .bool (decide ((IntKind.i64.wrap (x18 + x22)) > x20)))] _ _ _ (by kernel_rfl) ?_
       refine x_ek ?_
       refine c_norm [(2, Vp b4 0), (3, Vp b6 0), (6, .slice a_p1_0_1 (p1_0_1).length c_p1_0_1), (7, Vi x_s7_l12), (8, Vi y_s8_l14), (53, .bool (decide ((IntKind.i64.wrap (x18 + x22)) > x20)))] ⟨rfl, rfl, rfl, rfl, rfl, rfl, trivial⟩ (fun J => ?_)
       refine c_cond (decide ((IntKind.i64.wrap (x18 + x22)) > x20)) rfl (fun hb => ?_) (fun hb => ?_)
       · replace h := ite_t hb h
         refine c_sp ?_
         refine x_pure 1 [(4, Vi 12)] _ _ _ (by kernel_rfl) ?_
         refine x_ek ?_
         refine c_ret ?_
         refine k_block_ret ?_
         refine k_then_ret ?_
         have hx := some_inj h
         subst hx
         have hy := some_inj hn14
         subst hy
         replace h := h14
         refine k_then_ret ?_
         refine k_block_ret ?_
         refine k_block_ret ?_
         refine k_then_ret ?_
         have hx := some_inj h
         subst hx
         have hy := some_inj hn12
         subst hy
         replace h := h12
         refine k_then_ret ?_
         refine k_block_ret ?_
         refine k_then_ret ?_
         refine r_ret (r_vals [Vi 12] ⟨rfl, trivial⟩ ?_)
         have hx := some_inj h
         subst hx
         have hmr : MS w23 [M] := hms.pick [some 2] _ rfl
         have hsu : ∀ x ∈ fl [M], x ∈ fl [[b4], [b6], M] := pick_sub [some 2] _ rfl
         exact ⟨rfl, hev⟩
       replace h := ite_f hb h
       refine c_skip ?_
       refine k_block ?_
       refine k_then ?_
       refine c_plain ?_
       refine x_pure 3 [(31, Vi y_s8_l14), (32, Vi (IntKind.i64.wrap (y_s8_l14 + 1))), (8, Vi (IntKind.i64.wrap (y_s8_l14 + 1)))] _ _ _ (by kernel_rfl) ?_
       refine x_end rfl ?_
       have hx := some_inj h
       subst hx
       exact k_then ⟨(m14, IntKind.i64.wrap (y_s8_l14 + 1)), ⟨rfl, rfl, rfl, rfl, rfl, trivial⟩, ⟨hn14, hev, hms, hfr, hs_p0_0, hb4, hs_p1_0_1, hs_p1_1, hb6⟩, Nat.lt_succ_self _⟩
     replace h := ite_f hb h
     refine x_pure 15 [(39, undef), (40, undef), (41, undef), (42, undef), (43, undef), (44, undef), (45, undef), (48, undef), (49, undef), (50, undef), (51, undef), (46, undef), (47, undef), (52, undef), (53, .bool false)] _ _ _ (by kernel_rfl) ?_
     refine x_ek ?_
     refine c_norm [(2, Vp b4 0), (3, Vp b6 0), (6, .slice a_p1_0_1 (p1_0_1).length c_p1_0_1), (7, Vi x_s7_l12), (8, Vi y_s8_l14), (53, .bool false)] ⟨rfl, rfl, rfl, rfl, rfl, rfl, trivial⟩ (fun J => ?_)
     refine c_false rfl ?_
     refine c_skip ?_
     refine k_block ?_
     refine k_then ?_
     refine c_plain ?_
     refine x_pure 3 [(31, Vi y_s8_l14), (32, Vi (IntKind.i64.wrap (y_s8_l14 + 1))), (8, Vi (IntKind.i64.wrap (y_s8_l14 + 1)))] _ _ _ (by kernel_rfl) ?_
     refine x_end rfl ?_
     have hx := some_inj h
     subst hx
     exact k_then ⟨(m14, IntKind.i64.wrap (y_s8_l14 + 1)), ⟨rfl, rfl, rfl, rfl, rfl, trivial⟩, ⟨hn14, hev, hms, hfr, hs_p0_0, hb4, hs_p1_0_1, hs_p1_1, hb6⟩, Nat.lt_succ_self _⟩
   replace h := ite_f hb h
   refine c_exit ?_
   refine k_then_exit ?_
   have hx := some_inj h
   subst hx
   have hy := some_inj hn14
   subst hy
   replace h := h14
   refine k_then_exit ?_
   refine k_block_in ?_
   refine k_block ?_
   refine k_then ?_
   refine c_norm [(2, Vp b4 0), (3, Vp b6 0), (6, .slice a_p1_0_1 (p1_0_1).length c_p1_0_1), (7, Vi x_s7_l12)] ⟨rfl, rfl, rfl, rfl, trivial⟩ (fun J => ?_)
   refine c_plain ?_
   refine x_pure 3 [(25, Vi x_s7_l12), (26, Vi (IntKind.i64.wrap (x_s7_l12 + 1))), (7, Vi (IntKind.i64.wrap (x_s7_l12 + 1)))] _ _ _ (by kernel_rfl) ?_
   refine x_end rfl ?_
   have hx := some_inj h
   subst hx
   exact k_then ⟨(m12, IntKind.i64.wrap (x_s7_l12 + 1)), ⟨rfl, rfl, rfl, rfl, trivial⟩, ⟨hn12, hev, hms, hfr, hs_p0_0, hb4, hs_p1_0_1, hs_p1_1, hb6⟩, Nat.lt_succ_self _⟩
 replace h := ite_f hb h
 refine c_exit ?_
 refine k_then_exit ?_
 have hx := some_inj h
 subst hx
 have hy := some_inj hn12
 subst hy
 replace h := h12
 refine k_then_exit ?_
 refine k_block_in ?_
 refine k_then ?_
 refine c_norm [(2, Vp b4 0), (3, Vp b6 0)] ⟨rfl, rfl, trivial⟩ (fun J => ?_)
 refine c_sp ?_
 refine x_load (xv := Vp b4 0) (.agg #[.slice a_p0_0 (p0_0).length c_p0_0, Vi p0_1]) rfl rfl rfl (reads_boxagg 0 [.slice a_p0_0 (p0_0).length c_p0_0, Vi p0_1] tagg25 hb4 nn rfl) ?_
 refine x_fieldAddr (xv := Vp b6 0) (Vp b6 2) rfl rfl rfl (reads_field tfld29_1 _ _) ?_
 refine x_load (xv := Vp b6 2) (.slice a_p1_1 (p1_1).length c_p1_1) rfl rfl rfl (reads_box tcell22 hb6 nn 2 _ rfl) ?_
 obtain ⟨x24, hx, h⟩ := bind_some h
 have hpk : MS wl12 ([] ++ [[b4], [b6], M]) := hms.pick [some 0, some 1, some 2] _ rfl
 have hsb0 : ∀ x ∈ fl ([] ++ [[b4], [b6], M]), x ∈ fl [[b4], [b6], M] := pick_sub [some 0, some 1, some 2] _ rfl
 have hsb : ∀ x ∈ fl ([] ++ [(fl [[b4], [b6], M])]), x ∈ fl [[b4], [b6], M] := fun x hx => hsb0 x (fl_unfold x hx)
 have hcall := r13_Bound_w a_p0_0 c_p0_0 p0_0 p0_1 a_p1_1 c_p1_1 p1_1 _ wl12 (fl [[b4], [b6], M]) (MS.fold (P := []) hpk) (hs_p0_0.sub hsb) (hs_p1_1.sub hsb) hx
 refine x_call 43 #[] #[] [.agg #[.slice a_p0_0 (p0_0).length c_p0_0, Vi p0_1], .slice a_p1_1 (p1_1).length c_p1_1] _ rfl rfl rfl rfl hcall ?_
 rintro v w25 ⟨rfl, he25⟩
 clear hcall hx
 refine inl1 ?_
 have hst := Stp.ext (ls := [[b4], [b6], M]) he25
 replace hb4 := he25.box hb4 nn
 replace hs_p0_0 := hs_p0_0.step hst
 replace hb6 := he25.box hb6 nn
 replace hs_p1_0_1 := hs_p1_0_1.step hst
 replace hs_p1_1 := hs_p1_1.step hst
 replace hms := hms.ev he25
 replace hev := hev.ext he25
 clear hpk hsb hsb0
 refine x_pure 5 [(54, .tuple #[Vi x24.1, Vi x24.2]), (59, Vi x24.1), (60, Vi x24.2), (9, Vi x24.1), (10, Vi x24.2)] _ _ _ (by kernel_rfl) ?_
 refine x_ek ?_
 refine c_seq ?_
 refine c_sp ?_
 refine x_pure 2 [(61, Vi x24.2), (62, .bool (x24.2 != 0))] _ _ _ (by kernel_rfl) ?_
 refine x_ek ?_
 refine c_cond (x24.2 != 0) rfl (fun hb => ?_) (fun hb => ?_)
 · replace h := ite_t hb h
   refine c_sp ?_
   refine x_pure 2 [(63, Vi x24.2), (4, Vi x24.2)] _ _ _ (by kernel_rfl) ?_
   refine x_ek ?_
   refine c_norm [(4, Vi x24.2)] ⟨rfl, trivial⟩ (fun J => ?_)
   refine c_ret ?_
   refine k_then_ret ?_
   refine r_ret (r_vals [Vi x24.2] ⟨rfl, trivial⟩ ?_)
   have hx := some_inj h
   subst hx
   have hmr : MS w25 [M] := hms.pick [some 2] _ rfl
   have hsu : ∀ x ∈ fl [M], x ∈ fl [[b4], [b6], M] := pick_sub [some 2] _ rfl
   exact ⟨rfl, hev⟩
 replace h := ite_f hb h
 refine c_skip ?_
 refine k_then ?_
 refine c_seq ?_
 refine c_seq ?_
 refine c_drawn [] [(0, false), (2, false), (3, false), (4, false), (1, false), (5, false)] _ (by kernel_rfl) rfl ?_
 have hst := Stp.ext (ls := [[b4], [b6], M]) (Ev.drew w25)
 replace hb4 := (Ev.drew w25).box hb4 nn
 replace hs_p0_0 := hs_p0_0.step hst
 replace hb6 := (Ev.drew w25).box hb6 nn
 replace hs_p1_0_1 := hs_p1_0_1.step hst
 replace hs_p1_1 := hs_p1_1.step hst
 replace hms := hms.ev (Ev.drew w25)
 replace hev := hev.ext (Ev.drew w25)
 refine x_pure 1 [(64, Vi x24.1)] _ _ _ (by kernel_rfl) ?_
 refine x_fieldAddr (xv := Vp b6 0) (Vp b6 0) rfl rfl rfl (reads_field tfld29_0 _ _) ?_
 refine x_fieldAddr (xv := Vp b6 0) (Vp b6 0) rfl rfl rfl (reads_field tfld27_0 _ _) ?_
 refine x_load (xv := Vp b6 0) (Vi p1_0_0) rfl rfl rfl (reads_box tcell3 hb6 nn 0 _ rfl) ?_
 obtain ⟨x27, hx, h⟩ := bind_some h
 have hcall := r12_Long_w x24.1 _ (w25).drew hx
 refine x_call 44 #[] #[] [Vi x24.1] _ rfl rfl rfl rfl hcall ?_
 rintro v w28 ⟨rfl, he28⟩
 clear hcall hx
 refine ⟨.inr he28, ?_⟩
 have hst := Stp.ext (ls := [[b4], [b6], M]) he28
 replace hb4 := he28.box hb4 nn
 replace hs_p0_0 := hs_p0_0.step hst
 replace hb6 := he28.box hb6 nn
 replace hs_p1_0_1 := hs_p1_0_1.step hst
 replace hs_p1_1 := hs_p1_1.step hst
 replace hms := hms.ev he28
 replace hev := hev.ext he28
 refine x_pure 1 [(69, .bool (x27 != p1_0_0))] _ _ _ (by kernel_rfl) ?_
 refine x_ek ?_
 refine c_norm [(69, .bool (x27 != p1_0_0))] ⟨rfl, trivial⟩ (fun J => ?_)
 refine c_cond (x27 != p1_0_0) rfl (fun hb => ?_) (fun hb => ?_)
 · replace h := ite_t hb h
   refine c_sp ?_
   refine x_pure 1 [(4, Vi 17)] _ _ _ (by kernel_rfl) ?_
   refine x_ek ?_
   refine c_ret ?_
   refine k_then_ret ?_
   refine r_ret (r_vals [Vi 17] ⟨rfl, trivial⟩ ?_)
   have hx := some_inj h
   subst hx
   have hmr : MS w28 [M] := hms.pick [some 2] _ rfl
   have hsu : ∀ x ∈ fl [M], x ∈ fl [[b4], [b6], M] := pick_sub [some 2] _ rfl
   exact ⟨rfl, hev⟩
 replace h := ite_f hb h
 refine c_skip ?_
 refine k_then ?_
 refine c_sp ?_
 refine x_pure 1 [(4, Vi 0)] _ _ _ (by kernel_rfl) ?_
 refine x_ek ?_
 refine c_ret ?_
 refine r_ret (r_vals [Vi 0] ⟨rfl, trivial⟩ ?_)
 have hx := some_inj h
 subst hx
 have hmr : MS w28 [M] := hms.pick [some 2] _ rfl
 have hsu : ∀ x ∈ fl [M], x ∈ fl [[b4], [b6], M] := pick_sub [some 2] _ rfl
 exact ⟨rfl, hev⟩
end Go.Proofs.Ytcignnfdpgeogaa
