
/- Walks, printed by program: each function returns what the partial function of the same name returns. Conditions: those of each theorem. -/
import Derived.Test.YtlejnkhaphlooaaGreatGT
import Derived.Test.YtlejnkhaphlooaaGreatGcode
import Derived.Test.YtlejnkhaphlooaaGreatGjob
import Derived.Test.YtlejnkhaphlooaaGreatGleastcode
import Derived.Test.YtlejnkhaphlooaaGreatGrollin
set_option linter.unusedVariables false
set_option linter.unusedSimpArgs false
set_option maxRecDepth 4000
namespace Go.Proofs.YtlejnkhaphlooaaGreat
open Go Go.V Go.Proofs
def certificate_Make (p0_0 : List (Int × Int × Int × Int)) (p0_1 : Int) : Option (((Int × (List Int)) × (List Int)) × Int) :=
((leastcode_Least p0_0 p0_1).bind fun x6 =>
(if (x6.2 != 0) = true then
some (((0, []), []), x6.2)
else
((leastcode_Witness p0_0 p0_1).bind fun x14 =>
(if (x14.2 != 0) = true then
some (((0, []), []), x14.2)
else
some (((x6.1.1, x6.1.2), x14.1), 0)))))
theorem certificate_Make_w (a_p0_0 : Option Addr) (c_p0_0 : Nat) (p0_0 : List (Int × Int × Int × Int)) (p0_1 : Int) (r : ((Int × (List Int)) × (List Int)) × Int) (w : World) (M : List Nat) (hms : MS w [M]) (hs_p0_0 : SlR (eIt4) w (fl [M]) a_p0_0 c_p0_0 p0_0) (h : certificate_Make p0_0 p0_1 = some r) : CallVC Tryz.prog 21 [.agg #[Vl a_p0_0 p0_0 c_p0_0, Vi p0_1]] w fun v w' => ∃ (a0' : Option Addr), ∃ (c0' : Nat), ∃ (a2' : Option Addr), ∃ (c2' : Nat), v = .tuple #[.agg #[Vi r.1.1.1, Vl a0' r.1.1.2 c0', Vl a2' r.1.2 c2'], Vi r.2] ∧ Ev [] w w' ∧ MS w' [blk a0', blk a2', M] ∧ FR w.heap.size [blk a0', blk a2'] ∧ OwnS (eInt .i64) 3 w' (fl [blk a0', blk a2', M]) a0' c0' r.1.1.2 ∧ OwnS (eInt .i64) 3 w' (fl [blk a0', blk a2', M]) a2' c2' r.1.2 := by
 refine calls_vc hmx Tryz.func21 (by kernel_rfl) rfl (rs := [.cell 2 54, .tmp 3]) rfl (by kernel_rfl) (args := [.agg #[Vl a_p0_0 p0_0 c_p0_0, Vi p0_1]]) rfl ?_
 have hev : Ev [] w w := Ev.refl _ _
 have hfr : FR w.heap.size [] := FR.nil _
 refine c_sp (x_box (xv := .agg #[Vl a_p0_0 p0_0 c_p0_0, Vi p0_1]) rfl rfl rfl (fun b2 w2 hq2 hb2 he2 hz2 => ?_))
 replace hb2 : w2.heap[b2]? = some (.cells #[Vl a_p0_0 p0_0 c_p0_0, Vi p0_1] 50 (0, 0)) := hb2
 refine inl1 ?_
 have hst := Stp.box (ls := [M]) he2 hq2
 replace hs_p0_0 := hs_p0_0.step hst
 replace hms := hms.box he2 hq2 hb2
 replace hfr := hfr.box hev.size hq2
 replace hev := hev.ext he2
 refine x_alloc (z := .agg #[Vi 0, .slice none 0 0, .slice none 0 0]) rfl rfl (by kernel_rfl) (fun b4 w4 hq4 hb4 he4 hz4 => ?_)
 replace hb4 : w4.heap[b4]? = some (.cells #[Vi 0, .slice none 0 0, .slice none 0 0] 54 (0, 0)) := hb4
 refine inl1 ?_
 have hst := Stp.box (ls := [[b2], M]) he4 hq4
 replace hs_p0_0 := hs_p0_0.step hst
 replace hb2 := he4.box hb2 nn
 replace hms := hms.box he4 hq4 hb4
 replace hfr := hfr.box hev.size hq4
 replace hev := hev.ext he4
 refine x_u 1 [(3, Vi 0)] (x_ek (c_sp (x_load (xv := Vp b2 0) (.agg #[Vl a_p0_0 p0_0 c_p0_0, Vi p0_1]) rfl rfl rfl (reads_boxagg 0 [Vl a_p0_0 p0_0 c_p0_0, Vi p0_1] tagg50 hb2 nn rfl) ?_)))
 obtain ⟨x6, hx, h⟩ := bind_some h
 have hcall := leastcode_Least_w a_p0_0 c_p0_0 p0_0 p0_1 _ w4 (fl [[b4], [b2], M]) (MS.fold (P := []) hms) (hs_p0_0.sub fl1) hx
 refine x_call 51 #[] #[] [.agg #[Vl a_p0_0 p0_0 c_p0_0, Vi p0_1]] _ rfl rfl rfl rfl hcall ?_
 rintro v w7 ⟨a0_7, c0_7, rfl, he7, hmn7, hfn7, hf7_1⟩
 clear hcall hx
 refine inl1 ?_
 have hst := Stp.call0 [[b4], [b2], M] [blk a0_7] [blk a0_7, [b4], [b2], M] he7 hfn7 rfl
 replace hs_p0_0 := hs_p0_0.step hst
 replace hb2 := he7.box hb2 nn
 replace hb4 := he7.box hb4 nn
 replace hms := MS.call0 [blk a0_7] [blk a0_7, [b4], [b2], M] hms he7 hmn7 hfn7 rfl
 have hfr2 := FR.call0 [blk a0_7, [b4], [b2]] hev.size hfn7 hfr rfl
 replace hev := hev.ext he7
 replace hfr := hfr2
 clear hfr2
 replace hf7_1 := OwnS.plain (M' := fl [blk a0_7, [b4], [b2], M]) (plain_int _) hf7_1
 clear hst
 refine x_u 3 [(7, .tuple #[.agg #[Vi x6.1.1, Vl a0_7 x6.1.2 c0_7], Vi x6.2]), (10, .agg #[Vi x6.1.1, Vl a0_7 x6.1.2 c0_7]), (11, Vi x6.2)] (x_alloc (z := .agg #[Vi 0, .slice none 0 0]) rfl rfl (by kernel_rfl) (fun b9 w9 hq9 hb9 he9 hz9 => ?_))
 replace hb9 : w9.heap[b9]? = some (.cells #[Vi 0, .slice none 0 0] 52 (0, 0)) := hb9
 refine inl1 ?_
 have hst := Stp.box (ls := [blk a0_7, [b4], [b2], M]) he9 hq9
 replace hs_p0_0 := hs_p0_0.step hst
 replace hb2 := he9.box hb2 nn
 replace hb4 := he9.box hb4 nn
 replace hf7_1 := hf7_1.step hst he9 nn2
 replace hms := hms.box he9 hq9 hb9
 replace hfr := hfr.box hev.size hq9
 replace hev := hev.ext he9
 obtain ⟨w11, hr11, hb11, he11⟩ := store_boxagg 0 [Vi x6.1.1, Vl a0_7 x6.1.2 c0_7] #[Vi x6.1.1, Vl a0_7 x6.1.2 c0_7] tagg52 hb9 rfl rfl rfl
 refine x_store w11 (xv := Vp b9 0) (yv := .agg #[Vi x6.1.1, Vl a0_7 x6.1.2 c0_7]) rfl rfl rfl rfl hr11 (inl1 ?_)
 have hst := Stp.ev' (ls := [[b9], blk a0_7, [b4], [b2], M]) he11 (mem_flat 0 rfl)
 replace hs_p0_0 := hs_p0_0.step hst
 replace hb2 := he11.box hb2 (hms.apart 3 0 rfl rfl rfl _ mem1)
 replace hb4 := he11.box hb4 (hms.apart 2 0 rfl rfl rfl _ mem1)
 replace hf7_1 := hf7_1.step hst he11 (hms.apart 1 0 rfl rfl rfl)
 replace hms := hms.ev he11
 replace hev := hev.then he11 (fun b hb => .inr (hfr.at 0 rfl b hb))
 replace hb9 := hb11
 refine x_u 1 [(5, Vi x6.2)] (x_ek (c_seq (c_sp (x_u 2 [(12, Vi x6.2), (13, .bool (x6.2 != 0))] (x_ek ?_)))))
 refine c_if (x6.2 != 0) rfl h (fun h => ?_) (fun h => ?_)
 · refine c_sp (x_build (vs := []) (.agg #[Vi 0, .slice none 0 0, .slice none 0 0]) rfl rfl rfl (fun _ _ => by kernel_rfl) ?_)
   refine x_u 1 [(15, Vi x6.2)] ?_
   obtain ⟨w13, hr13, hb13, he13⟩ := store_boxagg 0 [Vi 0, .slice none 0 0, .slice none 0 0] #[Vi 0, .slice none 0 0, .slice none 0 0] tagg54 hb4 rfl rfl rfl
   refine x_store w13 (xv := Vp b4 0) (yv := .agg #[Vi 0, .slice none 0 0, .slice none 0 0]) rfl rfl rfl rfl hr13 (inl1 ?_)
   replace hms := hms.ev he13
   replace hev := hev.then he13 (fun b hb => .inr (hfr.at 2 rfl b hb))
   replace hb4 := hb13
   refine x_u 1 [(3, Vi x6.2)] (x_ek (c_nm [(2, Vp b4 0), (3, Vi x6.2)] (fun J => ?_)))
   refine c_ret (k_then_ret (r_ret (r_vals [.agg #[Vi 0, .slice none 0 0, .slice none 0 0], Vi x6.2] ⟨⟨_, rfl, loadVar_of_reads (reads_boxagg (Mo := []) 0 [Vi 0, .slice none 0 0, .slice none 0 0] tagg54 hb4 nn rfl)⟩, rfl, trivial⟩ ?_)))
   obtain rfl := some_inj h
   have hmr := hms.pick [none, none, some 4] [blk none, blk none, M] rfl
   have hfe := hfr.pick [none, none] [blk none, blk none] rfl
   exact ⟨none, 0, none, 0, rfl, hev, hmr, hfe, OwnS.nil _ _ _ _, OwnS.nil _ _ _ _⟩
 refine c_skip (k_then (c_sp (x_load (xv := Vp b2 0) (.agg #[Vl a_p0_0 p0_0 c_p0_0, Vi p0_1]) rfl rfl rfl (reads_boxagg 0 [Vl a_p0_0 p0_0 c_p0_0, Vi p0_1] tagg50 hb2 nn rfl) ?_)))
 obtain ⟨x14, hx, h⟩ := bind_some h
 have hcall := leastcode_Witness_w a_p0_0 c_p0_0 p0_0 p0_1 _ w11 (fl [[b9], blk a0_7, [b4], [b2], M]) (MS.fold (P := []) hms) (hs_p0_0.sub fl1) hx
 refine x_call 52 #[] #[] [.agg #[Vl a_p0_0 p0_0 c_p0_0, Vi p0_1]] _ rfl rfl rfl rfl hcall ?_
 rintro v w15 ⟨a0_15, c0_15, rfl, he15, hmn15, hfn15, hf15_1⟩
 clear hcall hx
 refine inl1 ?_
 have hst := Stp.call0 [[b9], blk a0_7, [b4], [b2], M] [blk a0_15] [blk a0_15, [b9], blk a0_7, [b4], [b2], M] he15 hfn15 rfl
 replace hb4 := he15.box hb4 nn
 replace hf7_1 := hf7_1.step hst he15 nn2
 replace hb9 := he15.box hb9 nn
 replace hms := MS.call0 [blk a0_15] [blk a0_15, [b9], blk a0_7, [b4], [b2], M] hms he15 hmn15 hfn15 rfl
 have hfr2 := FR.call0 [blk a0_15, [b9], blk a0_7, [b4], [b2]] hev.size hfn15 hfr rfl
 replace hev := hev.ext he15
 replace hfr := hfr2
 clear hfr2
 replace hf15_1 := OwnS.plain (M' := fl [blk a0_15, [b9], blk a0_7, [b4], [b2], M]) (plain_int _) hf15_1
 clear hst
 refine x_u 5 [(16, .tuple #[Vl a0_15 x14.1 c0_15, Vi x14.2]), (19, Vl a0_15 x14.1 c0_15), (20, Vi x14.2), (6, Vl a0_15 x14.1 c0_15), (5, Vi x14.2)] (x_ek (c_nm [(2, Vp b4 0), (4, Vp b9 0), (5, Vi x14.2), (6, Vl a0_15 x14.1 c0_15)] (fun J => ?_)))
 refine c_seq (c_sp (x_u 2 [(21, Vi x14.2), (22, .bool (x14.2 != 0))] (x_ek (c_if (x14.2 != 0) rfl h (fun h => ?_) (fun h => ?_)))))
 · refine c_sp (x_build (vs := []) (.agg #[Vi 0, .slice none 0 0, .slice none 0 0]) rfl rfl rfl (fun _ _ => by kernel_rfl) ?_)
   refine x_u 1 [(24, Vi x14.2)] ?_
   obtain ⟨w17, hr17, hb17, he17⟩ := store_boxagg 0 [Vi 0, .slice none 0 0, .slice none 0 0] #[Vi 0, .slice none 0 0, .slice none 0 0] tagg54 hb4 rfl rfl rfl
   refine x_store w17 (xv := Vp b4 0) (yv := .agg #[Vi 0, .slice none 0 0, .slice none 0 0]) rfl rfl rfl rfl hr17 (inl1 ?_)
   replace hms := hms.ev he17
   replace hev := hev.then he17 (fun b hb => .inr (hfr.at 3 rfl b hb))
   replace hb4 := hb17
   refine x_u 1 [(3, Vi x14.2)] (x_ek (c_ret (k_then_ret (r_ret (r_vals [.agg #[Vi 0, .slice none 0 0, .slice none 0 0], Vi x14.2] ⟨⟨_, rfl, loadVar_of_reads (reads_boxagg (Mo := []) 0 [Vi 0, .slice none 0 0, .slice none 0 0] tagg54 hb4 nn rfl)⟩, rfl, trivial⟩ ?_)))))
   obtain rfl := some_inj h
   have hmr := hms.pick [none, none, some 5] [blk none, blk none, M] rfl
   have hfe := hfr.pick [none, none] [blk none, blk none] rfl
   exact ⟨none, 0, none, 0, rfl, hev, hmr, hfe, OwnS.nil _ _ _ _, OwnS.nil _ _ _ _⟩
 refine c_skip (k_then (c_sp (x_load (xv := Vp b9 0) (.agg #[Vi x6.1.1, Vl a0_7 x6.1.2 c0_7]) rfl rfl rfl (reads_boxagg 0 [Vi x6.1.1, Vl a0_7 x6.1.2 c0_7] tagg52 hb9 nn rfl) (x_u 1 [(26, Vl a0_15 x14.1 c0_15)] (x_build (vs := [(0, .agg #[Vi x6.1.1, Vl a0_7 x6.1.2 c0_7]), (1, Vl a0_15 x14.1 c0_15)]) (.agg #[Vi x6.1.1, Vl a0_7 x6.1.2 c0_7, Vl a0_15 x14.1 c0_15]) rfl rfl rfl (fun _ _ => by kernel_rfl) ?_)))))
 obtain ⟨w18, hr18, hb18, he18⟩ := store_boxagg 0 [Vi x6.1.1, Vl a0_7 x6.1.2 c0_7, Vl a0_15 x14.1 c0_15] #[Vi x6.1.1, Vl a0_7 x6.1.2 c0_7, Vl a0_15 x14.1 c0_15] tagg54 hb4 rfl rfl rfl
 refine x_store w18 (xv := Vp b4 0) (yv := .agg #[Vi x6.1.1, Vl a0_7 x6.1.2 c0_7, Vl a0_15 x14.1 c0_15]) rfl rfl rfl rfl hr18 (inl1 ?_)
 have hst := Stp.ev' (ls := [blk a0_15, [b9], blk a0_7, [b4], [b2], M]) he18 (mem_flat 3 rfl)
 replace hf7_1 := hf7_1.step hst he18 (hms.apart 2 3 rfl rfl rfl)
 replace hf15_1 := hf15_1.step hst he18 (hms.apart 0 3 rfl rfl rfl)
 replace hms := hms.ev he18
 replace hev := hev.then he18 (fun b hb => .inr (hfr.at 3 rfl b hb))
 replace hb4 := hb18
 refine x_u 1 [(3, Vi 0)] (x_ek (c_ret (r_ret (r_vals [.agg #[Vi x6.1.1, Vl a0_7 x6.1.2 c0_7, Vl a0_15 x14.1 c0_15], Vi 0] ⟨⟨_, rfl, loadVar_of_reads (reads_boxagg (Mo := []) 0 [Vi x6.1.1, Vl a0_7 x6.1.2 c0_7, Vl a0_15 x14.1 c0_15] tagg54 hb4 nn rfl)⟩, rfl, trivial⟩ ?_))))
 obtain rfl := some_inj h
 have hmr := hms.pick [some 2, some 0, some 5] [blk a0_7, blk a0_15, M] rfl
 have hsu := pick_sub (ls := [blk a0_15, [b9], blk a0_7, [b4], [b2], M]) [some 2, some 0, some 5] [blk a0_7, blk a0_15, M] rfl
 have hfe := hfr.pick [some 2, some 0] [blk a0_7, blk a0_15] rfl
 exact ⟨a0_7, c0_7, a0_15, c0_15, rfl, hev, hmr, hfe, hf7_1.sub hsu, hf15_1.sub hsu⟩
def certificate_Check_L14 (p0_0 : List (Int × Int × Int × Int)) (p0_1 : Int) (p1_0_1 : List Int) (t24__s24_l12 : Int) (s : Int) : Option (Step Int (Int ⊕ Unit)) :=
match s with
| t30__s30_l14 =>
(if (decide (t30__s30_l14 < ((p0_0).length : Int))) = true then
((job_Relation p0_0 p0_1 t24__s24_l12 t30__s30_l14).bind fun x16 =>
(if (x16.2 != 0) = true then
some (.done (.inl x16.2))
else
(if (decide (x16.1 > 0)) = true then
((idx p1_0_1 t24__s24_l12).bind fun x19 =>
((idx p1_0_1 t30__s30_l14).bind fun x21 =>
(if (decide ((IntKind.i64.wrap ((IntKind.i64.wrap (x19 + x16.1)) - 1)) > x21)) = true then
some (.done (.inl 12))
else
some (.next (IntKind.i64.wrap (t30__s30_l14 + 1))))))
else
some (.next (IntKind.i64.wrap (t30__s30_l14 + 1))))))
else
some (.done (.inr ())))
def certificate_Check_L12 (p0_0 : List (Int × Int × Int × Int)) (p0_1 : Int) (p1_0_1 : List Int) (s : Int) : Option (Step Int (Int ⊕ Unit)) :=
match s with
| t24__s24_l12 =>
(if (decide (t24__s24_l12 < ((p0_0).length : Int))) = true then
((loop (certificate_Check_L14 p0_0 p0_1 p1_0_1 t24__s24_l12) 0).bind fun d => match d with
| (.inl t4__s4_x1400) => some (.done (.inl t4__s4_x1400))
| (.inr _) => some (.next (IntKind.i64.wrap (t24__s24_l12 + 1))))
else
some (.done (.inr ())))
def certificate_Check (p0_0 : List (Int × Int × Int × Int)) (p0_1 : Int) (p1_0_0 : Int) (p1_0_1 : List Int) (p1_1 : List Int) : Option Int :=
((rollin_Valid p0_0 p0_1 p1_0_0 p1_0_1).bind fun x9 =>
(if (x9 != 0) = true then
some x9
else
((loop (certificate_Check_L12 p0_0 p0_1 p1_0_1) 0).bind fun d => match d with
| (.inl t4__s4_x1200) => some t4__s4_x1200
| (.inr _) => ((leastcode_Bound p0_0 p0_1 p1_1).bind fun x23 =>
(if (x23.2 != 0) = true then
some x23.2
else
((code_Steps x23.1).bind fun x26 =>
(if (x26.2 != 0) = true then
some 17
else
(if (x26.1 != p1_0_0) = true then
some 17
else
some 0))))))))
theorem certificate_Check_w (a_p0_0 : Option Addr) (c_p0_0 : Nat) (p0_0 : List (Int × Int × Int × Int)) (p0_1 : Int) (p1_0_0 : Int) (a_p1_0_1 : Option Addr) (c_p1_0_1 : Nat) (p1_0_1 : List Int) (a_p1_1 : Option Addr) (c_p1_1 : Nat) (p1_1 : List Int) (r : Int) (w : World) (M : List Nat) (hms : MS w [M]) (hs_p0_0 : SlR (eIt4) w (fl [M]) a_p0_0 c_p0_0 p0_0) (hs_p1_0_1 : SlR (eInt .i64) w (fl [M]) a_p1_0_1 c_p1_0_1 p1_0_1) (hs_p1_1 : SlR (eInt .i64) w (fl [M]) a_p1_1 c_p1_1 p1_1) (h : certificate_Check p0_0 p0_1 p1_0_0 p1_0_1 p1_1 = some r) : CallVC Tryz.prog 58 [.agg #[Vl a_p0_0 p0_0 c_p0_0, Vi p0_1], .agg #[Vi p1_0_0, Vl a_p1_0_1 p1_0_1 c_p1_0_1, Vl a_p1_1 p1_1 c_p1_1]] w fun v w' => v = Vi r ∧ Ev [] w w' := by
 refine calls_vc hmx Tryz.func58 (by kernel_rfl) rfl (rs := [.tmp 4]) rfl (by kernel_rfl) (args := [.agg #[Vl a_p0_0 p0_0 c_p0_0, Vi p0_1], .agg #[Vi p1_0_0, Vl a_p1_0_1 p1_0_1 c_p1_0_1, Vl a_p1_1 p1_1 c_p1_1]]) rfl ?_
 have hev : Ev [] w w := Ev.refl _ _
 have hfr : FR w.heap.size [] := FR.nil _
 refine c_sp (x_box (xv := .agg #[Vl a_p0_0 p0_0 c_p0_0, Vi p0_1]) rfl rfl rfl (fun b4 w4 hq4 hb4 he4 hz4 => ?_))
 replace hb4 : w4.heap[b4]? = some (.cells #[Vl a_p0_0 p0_0 c_p0_0, Vi p0_1] 50 (0, 0)) := hb4
 refine inl1 ?_
 have hst := Stp.box (ls := [M]) he4 hq4
 replace hs_p0_0 := hs_p0_0.step hst
 replace hs_p1_0_1 := hs_p1_0_1.step hst
 replace hs_p1_1 := hs_p1_1.step hst
 replace hms := hms.box he4 hq4 hb4
 replace hfr := hfr.box hev.size hq4
 replace hev := hev.ext he4
 refine x_box (xv := .agg #[Vi p1_0_0, Vl a_p1_0_1 p1_0_1 c_p1_0_1, Vl a_p1_1 p1_1 c_p1_1]) rfl rfl rfl (fun b6 w6 hq6 hb6 he6 hz6 => ?_)
 replace hb6 : w6.heap[b6]? = some (.cells #[Vi p1_0_0, Vl a_p1_0_1 p1_0_1 c_p1_0_1, Vl a_p1_1 p1_1 c_p1_1] 54 (0, 0)) := hb6
 refine inl1 ?_
 have hst := Stp.box (ls := [[b4], M]) he6 hq6
 replace hs_p0_0 := hs_p0_0.step hst
 replace hs_p1_0_1 := hs_p1_0_1.step hst
 replace hs_p1_1 := hs_p1_1.step hst
 replace hb4 := he6.box hb4 nn
 replace hms := hms.box he6 hq6 hb6
 replace hfr := hfr.box hev.size hq6
 replace hev := hev.ext he6
 refine x_u 1 [(4, Vi 0)] (x_ek (c_seq (c_sp (x_load (xv := Vp b4 0) (.agg #[Vl a_p0_0 p0_0 c_p0_0, Vi p0_1]) rfl rfl rfl (reads_boxagg 0 [Vl a_p0_0 p0_0 c_p0_0, Vi p0_1] tagg50 hb4 nn rfl) (x_fieldAddr (xv := Vp b6 0) (Vp b6 0) rfl rfl rfl (reads_field tfld54_0 _ _) ?_)))))
 refine x_load (xv := Vp b6 0) (.agg #[Vi p1_0_0, Vl a_p1_0_1 p1_0_1 c_p1_0_1]) rfl rfl rfl (reads_boxagg 0 [Vi p1_0_0, Vl a_p1_0_1 p1_0_1 c_p1_0_1] tagg52 hb6 nn rfl) ?_
 obtain ⟨x9, hx, h⟩ := bind_some h
 have hcall := rollin_Valid_w a_p0_0 c_p0_0 p0_0 p0_1 p1_0_0 a_p1_0_1 c_p1_0_1 p1_0_1 _ w6 (fl [[b6], [b4], M]) (MS.fold (P := []) hms) (hs_p0_0.sub fl1) (hs_p1_0_1.sub fl1) hx
 refine x_call 53 #[] #[] [.agg #[Vl a_p0_0 p0_0 c_p0_0, Vi p0_1], .agg #[Vi p1_0_0, Vl a_p1_0_1 p1_0_1 c_p1_0_1]] _ rfl rfl rfl rfl hcall ?_
 rintro v w10 ⟨rfl, he10⟩
 clear hcall hx
 refine inl1 ?_
 have hst := Stp.ext (ls := [[b6], [b4], M]) he10
 replace hs_p0_0 := hs_p0_0.step hst
 replace hs_p1_0_1 := hs_p1_0_1.step hst
 replace hs_p1_1 := hs_p1_1.step hst
 replace hb4 := he10.box hb4 nn
 replace hb6 := he10.box hb6 nn
 replace hms := hms.ev he10
 replace hev := hev.ext he10
 refine x_u 1 [(5, Vi x9)] (x_ek (c_sp (x_u 2 [(18, Vi x9), (19, .bool (x9 != 0))] (x_ek (c_if (x9 != 0) rfl h (fun h => ?_) (fun h => ?_))))))
 · refine c_sp (x_u 2 [(20, Vi x9), (4, Vi x9)] (x_ek (c_ret (k_then_ret (r_ret (r_vals [Vi x9] ⟨rfl, trivial⟩ ?_))))))
   obtain rfl := some_inj h
   exact ⟨rfl, hev⟩
 refine c_skip (k_then (c_seq (c_sp (x_fieldAddr (xv := Vp b4 0) (Vp b4 0) rfl rfl rfl (reads_field tfld50_0 _ _) (x_load (xv := Vp b4 0) (Vl a_p0_0 p0_0 c_p0_0) rfl rfl rfl (reads_box tcell36 hb4 nn 0 _ rfl) ?_)))))
 refine x_len (vs := [Vl a_p0_0 p0_0 c_p0_0]) (Vi ((p0_0).length : Int)) rfl rfl rfl (reads_len tsl36 _ _ _ _ _) (x_u 1 [(24, Vi 0)] (x_ek (c_nm [(2, Vp b4 0), (3, Vp b6 0), (23, Vi ((p0_0).length : Int)), (24, Vi 0)] (fun J => ?_))))
 refine c_block ?_
 have hpk := hms.pick [some 1, some 0, some 2] [[b4], [b6], M] rfl
 have hsu := pick_sub (ls := [[b6], [b4], M]) [some 1, some 0, some 2] [[b4], [b6], M] rfl
 replace hs_p0_0 := hs_p0_0.sub hsu
 replace hs_p1_0_1 := hs_p1_0_1.sub hsu
 replace hs_p1_1 := hs_p1_1.sub hsu
 replace hms := hpk
 replace hfr := hfr.pick [some 1, some 0] [[b4], [b6]] rfl
 clear hpk hsu
 obtain ⟨d12, hd12, h12⟩ := bind_some h
 obtain ⟨m12, hd12⟩ := loop_some hd12
 refine c_loop (loop_rule hmx (σ := Nat × Int) (fun s => match s with | (_, t24__s24_l12) => [(2, Vp b4 0), (3, Vp b6 0), (23, Vi ((p0_0).length : Int)), (24, Vi t24__s24_l12)]) (fun s w' => match s with | (m, t24__s24_l12) => loopN (certificate_Check_L12 p0_0 p0_1 p1_0_1) m t24__s24_l12 = some d12 ∧ Ev [] w w' ∧ MS w' [[b4], [b6], M] ∧ FR w.heap.size [[b4], [b6]] ∧ SlR (eIt4) w' (fl [[b4], [b6], M]) a_p0_0 c_p0_0 p0_0 ∧ w'.heap[b4]? = some (.cells #[Vl a_p0_0 p0_0 c_p0_0, Vi p0_1] 50 (0, 0)) ∧ SlR (eInt .i64) w' (fl [[b4], [b6], M]) a_p1_0_1 c_p1_0_1 p1_0_1 ∧ SlR (eInt .i64) w' (fl [[b4], [b6], M]) a_p1_1 c_p1_1 p1_1 ∧ w'.heap[b6]? = some (.cells #[Vi p1_0_0, Vl a_p1_0_1 p1_0_1 c_p1_0_1, Vl a_p1_1 p1_1 c_p1_1] 54 (0, 0))) (fun s => s.1) (m12, 0) ⟨rfl, rfl, rfl, rfl, trivial⟩ ⟨hd12, hev, hms, hfr, hs_p0_0, hb4, hs_p1_0_1, hs_p1_1, hb6⟩ ?_)
 rintro ⟨m12, t24__s24_l12⟩ J wl12 ⟨hn12, hev, hms, hfr, hs_p0_0, hb4, hs_p1_0_1, hs_p1_1, hb6⟩
 rcases m12 with _ | m12
 · exact (loopN_zero hn12).elim
 obtain ⟨t12, h, hn12⟩ := bind_some hn12
 refine c_sp (x_u 1 [(25, .bool (decide (t24__s24_l12 < ((p0_0).length : Int))))] (x_ek (c_nm [(2, Vp b4 0), (3, Vp b6 0), (23, Vi ((p0_0).length : Int)), (24, Vi t24__s24_l12), (25, .bool (decide (t24__s24_l12 < ((p0_0).length : Int))))] (fun J => ?_))))
 refine c_seq (c_if (decide (t24__s24_l12 < ((p0_0).length : Int))) rfl h (fun h => ?_) (fun h => ?_))
 · refine c_skip (k_then (c_seq (c_block (c_sp (x_u 2 [(26, Vi t24__s24_l12), (6, Vi t24__s24_l12)] ?_)))))
   refine x_ek (c_sp (x_fieldAddr (xv := Vp b4 0) (Vp b4 0) rfl rfl rfl (reads_field tfld50_0 _ _) (x_load (xv := Vp b4 0) (Vl a_p0_0 p0_0 c_p0_0) rfl rfl rfl (reads_box tcell36 hb4 nn 0 _ rfl) (x_len (vs := [Vl a_p0_0 p0_0 c_p0_0]) (Vi ((p0_0).length : Int)) rfl rfl rfl (reads_len tsl36 _ _ _ _ _) (x_u 1 [(30, Vi 0)] ?_)))))
   refine x_ek (c_block ?_)
   obtain ⟨d14, hd14, h14⟩ := bind_some h
   obtain ⟨m14, hd14⟩ := loop_some hd14
   refine c_loop (loop_rule hmx (σ := Nat × Int) (fun s => match s with | (_, t30__s30_l14) => [(2, Vp b4 0), (3, Vp b6 0), (6, Vi t24__s24_l12), (23, Vi ((p0_0).length : Int)), (24, Vi t24__s24_l12), (29, Vi ((p0_0).length : Int)), (30, Vi t30__s30_l14)]) (fun s w' => match s with | (m, t30__s30_l14) => loopN (certificate_Check_L14 p0_0 p0_1 p1_0_1 t24__s24_l12) m t30__s30_l14 = some d14 ∧ Ev [] w w' ∧ MS w' [[b4], [b6], M] ∧ FR w.heap.size [[b4], [b6]] ∧ SlR (eIt4) w' (fl [[b4], [b6], M]) a_p0_0 c_p0_0 p0_0 ∧ w'.heap[b4]? = some (.cells #[Vl a_p0_0 p0_0 c_p0_0, Vi p0_1] 50 (0, 0)) ∧ SlR (eInt .i64) w' (fl [[b4], [b6], M]) a_p1_0_1 c_p1_0_1 p1_0_1 ∧ SlR (eInt .i64) w' (fl [[b4], [b6], M]) a_p1_1 c_p1_1 p1_1 ∧ w'.heap[b6]? = some (.cells #[Vi p1_0_0, Vl a_p1_0_1 p1_0_1 c_p1_0_1, Vl a_p1_1 p1_1 c_p1_1] 54 (0, 0))) (fun s => s.1) (m14, 0) ⟨rfl, rfl, rfl, rfl, rfl, rfl, rfl, trivial⟩ ⟨hd14, hev, hms, hfr, hs_p0_0, hb4, hs_p1_0_1, hs_p1_1, hb6⟩ ?_)
   rintro ⟨m14, t30__s30_l14⟩ J wl14 ⟨hn14, hev, hms, hfr, hs_p0_0, hb4, hs_p1_0_1, hs_p1_1, hb6⟩
   rcases m14 with _ | m14
   · exact (loopN_zero hn14).elim
   obtain ⟨t14, h, hn14⟩ := bind_some hn14
   refine c_sp (x_u 1 [(31, .bool (decide (t30__s30_l14 < ((p0_0).length : Int))))] (x_ek (c_nm [(2, Vp b4 0), (3, Vp b6 0), (6, Vi t24__s24_l12), (23, Vi ((p0_0).length : Int)), (24, Vi t24__s24_l12), (29, Vi ((p0_0).length : Int)), (30, Vi t30__s30_l14), (31, .bool (decide (t30__s30_l14 < ((p0_0).length : Int))))] (fun J => ?_))))
   refine c_seq (c_if (decide (t30__s30_l14 < ((p0_0).length : Int))) rfl h (fun h => ?_) (fun h => ?_))
   · refine c_skip (k_then (c_seq (c_block (c_sp (x_u 2 [(32, Vi t30__s30_l14), (7, Vi t30__s30_l14)] ?_)))))
     refine x_ek (c_sp (x_load (xv := Vp b4 0) (.agg #[Vl a_p0_0 p0_0 c_p0_0, Vi p0_1]) rfl rfl rfl (reads_boxagg 0 [Vl a_p0_0 p0_0 c_p0_0, Vi p0_1] tagg50 hb4 nn rfl) (x_u 2 [(35, Vi t24__s24_l12), (36, Vi t30__s30_l14)] ?_)))
     obtain ⟨x16, hx, h⟩ := bind_some h
     have hcall := job_Relation_w a_p0_0 c_p0_0 p0_0 p0_1 t24__s24_l12 t30__s30_l14 _ wl14 (fl [[b4], [b6], M]) (MS.fold (P := []) hms) (hs_p0_0.sub fl1) hx
     refine x_call 91 #[] #[] [.agg #[Vl a_p0_0 p0_0 c_p0_0, Vi p0_1], Vi t24__s24_l12, Vi t30__s30_l14] _ rfl rfl rfl rfl hcall ?_
     rintro v w17 ⟨rfl, he17⟩
     clear hcall hx
     refine inl1 ?_
     have hst := Stp.ext (ls := [[b4], [b6], M]) he17
     replace hb4 := he17.box hb4 nn
     replace hs_p0_0 := hs_p0_0.step hst
     replace hb6 := he17.box hb6 nn
     replace hs_p1_0_1 := hs_p1_0_1.step hst
     replace hs_p1_1 := hs_p1_1.step hst
     replace hms := hms.ev he17
     replace hev := hev.ext he17
     refine x_u 5 [(33, .tuple #[Vi x16.1, Vi x16.2]), (38, Vi x16.1), (39, Vi x16.2), (8, Vi x16.1), (9, Vi x16.2)] (x_ek (c_seq (c_sp (x_u 2 [(40, Vi x16.2), (41, .bool (x16.2 != 0))] (x_ek ?_)))))
     refine c_nm [(2, Vp b4 0), (3, Vp b6 0), (6, Vi t24__s24_l12), (7, Vi t30__s30_l14), (8, Vi x16.1), (9, Vi x16.2), (23, Vi ((p0_0).length : Int)), (24, Vi t24__s24_l12), (29, Vi ((p0_0).length : Int)), (30, Vi t30__s30_l14), (41, .bool (x16.2 != 0))] (fun J => ?_)
     refine c_if (x16.2 != 0) rfl h (fun h => ?_) (fun h => ?_)
     · refine c_sp (x_u 2 [(42, Vi x16.2), (4, Vi x16.2)] (x_ek (c_ret (k_then_ret (k_block_ret ?_)))))
       refine k_then_ret ?_
       obtain rfl := some_inj h
       have hy := some_inj hn14
       subst hy
       replace h := h14
       refine k_then_ret (k_block_ret (k_block_ret (k_then_ret ?_)))
       obtain rfl := some_inj h
       have hy := some_inj hn12
       subst hy
       replace h := h12
       refine k_then_ret (k_block_ret (k_then_ret (r_ret (r_vals [Vi x16.2] ⟨rfl, trivial⟩ ?_))))
       obtain rfl := some_inj h
       exact ⟨rfl, hev⟩
     refine c_skip (k_then (c_seq (c_drawn [] [(0, false), (1, false), (2, false), (3, false), (4, false), (5, false), (6, false), (7, false), (8, false), (9, false), (10, false), (11, false), (12, false), (13, false), (14, false), (15, false), (16, false), (17, false), (18, false), (19, false)] _ (by kernel_rfl) rfl ?_)))
     have hst := Stp.ext (ls := [[b4], [b6], M]) (Ev.drew w17)
     replace hb4 := (Ev.drew w17).box hb4 nn
     replace hs_p0_0 := hs_p0_0.step hst
     replace hb6 := (Ev.drew w17).box hb6 nn
     replace hs_p1_0_1 := hs_p1_0_1.step hst
     replace hs_p1_1 := hs_p1_1.step hst
     replace hms := hms.ev (Ev.drew w17)
     replace hev := hev.ext (Ev.drew w17)
     refine x_u 3 [(43, Vi x16.1), (44, .bool (decide (x16.1 > 0))), (45, .bool (decide (x16.1 > 0)))] (x_if 45 (decide (x16.1 > 0)) rfl h (fun h => ?_) (fun h => ?_))
     · refine x_fieldAddr (xv := Vp b6 0) (Vp b6 0) rfl rfl rfl (reads_field tfld54_0 _ _) (x_fieldAddr (xv := Vp b6 0) (Vp b6 1) rfl rfl rfl (reads_field tfld52_1 _ _) (x_load (xv := Vp b6 1) (Vl a_p1_0_1 p1_0_1 c_p1_0_1) rfl rfl rfl (reads_box tcell22 hb6 nn 1 _ rfl) (x_u 1 [(49, Vi t24__s24_l12)] ?_)))
       obtain ⟨x19, hx19, h⟩ := bind_some h
       obtain ⟨ad19, cs19, hr19, hc19, hR⟩ := reads_index (Mo := []) tsl22 hs_p1_0_1 hx19
       obtain rfl := hR
       refine x_indexAddr (xv := Vl a_p1_0_1 p1_0_1 c_p1_0_1) (yv := Vi t24__s24_l12) (.pointer (some ad19)) rfl rfl rfl rfl hr19 (x_load (xv := .pointer (some ad19)) (Vi x19) rfl rfl rfl (reads_cell0 tcell3 hc19 (fun _ h => by cases h)) ?_)
       refine x_u 3 [(52, Vi x16.1), (53, Vi (IntKind.i64.wrap (x19 + x16.1))), (54, Vi (IntKind.i64.wrap ((IntKind.i64.wrap (x19 + x16.1)) - 1)))] (x_fieldAddr (xv := Vp b6 0) (Vp b6 0) rfl rfl rfl (reads_field tfld54_0 _ _) (x_fieldAddr (xv := Vp b6 0) (Vp b6 1) rfl rfl rfl (reads_field tfld52_1 _ _) (x_load (xv := Vp b6 1) (Vl a_p1_0_1 p1_0_1 c_p1_0_1) rfl rfl rfl (reads_box tcell22 hb6 nn 1 _ rfl) (x_u 1 [(58, Vi t30__s30_l14)] ?_))))
       obtain ⟨x21, hx21, h⟩ := bind_some h
       obtain ⟨ad21, cs21, hr21, hc21, hR⟩ := reads_index (Mo := []) tsl22 hs_p1_0_1 hx21
       obtain rfl := hR
       refine x_indexAddr (xv := Vl a_p1_0_1 p1_0_1 c_p1_0_1) (yv := Vi t30__s30_l14) (.pointer (some ad21)) rfl rfl rfl rfl hr21 (x_load (xv := .pointer (some ad21)) (Vi x21) rfl rfl rfl (reads_cell0 tcell3 hc21 (fun _ h => by cases h)) ?_)
       refine x_u 2 [(61, .bool (decide ((IntKind.i64.wrap ((IntKind.i64.wrap (x19 + x16.1)) - 1)) > x21))), (62, .bool (decide ((IntKind.i64.wrap ((IntKind.i64.wrap (x19 + x16.1)) - 1)) > x21)))] (x_ek (c_nm [(2, Vp b4 0), (3, Vp b6 0), (6, Vi t24__s24_l12), (23, Vi ((p0_0).length : Int)), (24, Vi t24__s24_l12), (29, Vi ((p0_0).length : Int)), (30, Vi t30__s30_l14), (62, .bool (decide ((IntKind.i64.wrap ((IntKind.i64.wrap (x19 + x16.1)) - 1)) > x21)))] (fun J => ?_)))
       refine c_if (decide ((IntKind.i64.wrap ((IntKind.i64.wrap (x19 + x16.1)) - 1)) > x21)) rfl h (fun h => ?_) (fun h => ?_)
       · refine c_sp (x_u 1 [(4, Vi 12)] (x_ek (c_ret (k_block_ret (k_then_ret ?_)))))
         obtain rfl := some_inj h
         have hy := some_inj hn14
         subst hy
         replace h := h14
         refine k_then_ret (k_block_ret (k_block_ret (k_then_ret ?_)))
         obtain rfl := some_inj h
         have hy := some_inj hn12
         subst hy
         replace h := h12
         refine k_then_ret (k_block_ret (k_then_ret (r_ret (r_vals [Vi 12] ⟨rfl, trivial⟩ ?_))))
         obtain rfl := some_inj h
         exact ⟨rfl, hev⟩
       refine c_skip (k_block (k_then (c_plain (x_u 2 [(63, Vi (IntKind.i64.wrap (t30__s30_l14 + 1))), (30, Vi (IntKind.i64.wrap (t30__s30_l14 + 1)))] (x_end rfl ?_)))))
       obtain rfl := some_inj h
       exact k_then ⟨(m14, IntKind.i64.wrap (t30__s30_l14 + 1)), ⟨rfl, rfl, rfl, rfl, rfl, rfl, rfl, trivial⟩, ⟨hn14, hev, hms, hfr, hs_p0_0, hb4, hs_p1_0_1, hs_p1_1, hb6⟩, Nat.lt_succ_self _⟩
     refine x_u 17 [(46, undef), (47, undef), (48, undef), (49, undef), (50, undef), (51, undef), (52, undef), (53, undef), (54, undef), (55, undef), (56, undef), (57, undef), (58, undef), (59, undef), (60, undef), (61, undef), (62, .bool false)] (x_ek (c_nm [(2, Vp b4 0), (3, Vp b6 0), (6, Vi t24__s24_l12), (23, Vi ((p0_0).length : Int)), (24, Vi t24__s24_l12), (29, Vi ((p0_0).length : Int)), (30, Vi t30__s30_l14), (62, .bool false)] (fun J => ?_)))
     refine c_false rfl (c_skip (k_block (k_then (c_plain (x_u 2 [(63, Vi (IntKind.i64.wrap (t30__s30_l14 + 1))), (30, Vi (IntKind.i64.wrap (t30__s30_l14 + 1)))] ?_)))))
     refine x_end rfl ?_
     obtain rfl := some_inj h
     exact k_then ⟨(m14, IntKind.i64.wrap (t30__s30_l14 + 1)), ⟨rfl, rfl, rfl, rfl, rfl, rfl, rfl, trivial⟩, ⟨hn14, hev, hms, hfr, hs_p0_0, hb4, hs_p1_0_1, hs_p1_1, hb6⟩, Nat.lt_succ_self _⟩
   refine c_exit (k_then_exit ?_)
   obtain rfl := some_inj h
   have hy := some_inj hn14
   subst hy
   replace h := h14
   refine k_then_exit (k_block_in (k_block (k_then (c_nm [(2, Vp b4 0), (3, Vp b6 0), (23, Vi ((p0_0).length : Int)), (24, Vi t24__s24_l12)] (fun J => ?_)))))
   refine c_plain (x_u 2 [(64, Vi (IntKind.i64.wrap (t24__s24_l12 + 1))), (24, Vi (IntKind.i64.wrap (t24__s24_l12 + 1)))] (x_end rfl ?_))
   obtain rfl := some_inj h
   exact k_then ⟨(m12, IntKind.i64.wrap (t24__s24_l12 + 1)), ⟨rfl, rfl, rfl, rfl, trivial⟩, ⟨hn12, hev, hms, hfr, hs_p0_0, hb4, hs_p1_0_1, hs_p1_1, hb6⟩, Nat.lt_succ_self _⟩
 refine c_exit (k_then_exit ?_)
 obtain rfl := some_inj h
 have hy := some_inj hn12
 subst hy
 replace h := h12
 refine k_then_exit (k_block_in (k_then (c_nm [(2, Vp b4 0), (3, Vp b6 0)] (fun J => ?_))))
 refine c_sp (x_load (xv := Vp b4 0) (.agg #[Vl a_p0_0 p0_0 c_p0_0, Vi p0_1]) rfl rfl rfl (reads_boxagg 0 [Vl a_p0_0 p0_0 c_p0_0, Vi p0_1] tagg50 hb4 nn rfl) (x_fieldAddr (xv := Vp b6 0) (Vp b6 2) rfl rfl rfl (reads_field tfld54_1 _ _) (x_load (xv := Vp b6 2) (Vl a_p1_1 p1_1 c_p1_1) rfl rfl rfl (reads_box tcell22 hb6 nn 2 _ rfl) ?_)))
 obtain ⟨x23, hx, h⟩ := bind_some h
 have hcall := leastcode_Bound_w a_p0_0 c_p0_0 p0_0 p0_1 a_p1_1 c_p1_1 p1_1 _ wl12 (fl [[b4], [b6], M]) (MS.fold (P := []) hms) (hs_p0_0.sub fl1) (hs_p1_1.sub fl1) hx
 refine x_call 92 #[] #[] [.agg #[Vl a_p0_0 p0_0 c_p0_0, Vi p0_1], Vl a_p1_1 p1_1 c_p1_1] _ rfl rfl rfl rfl hcall ?_
 rintro v w24 ⟨rfl, he24⟩
 clear hcall hx
 refine inl1 ?_
 replace hb6 := he24.box hb6 nn
 replace hev := hev.ext he24
 refine x_u 5 [(65, .tuple #[Vi x23.1, Vi x23.2]), (70, Vi x23.1), (71, Vi x23.2), (10, Vi x23.1), (11, Vi x23.2)] (x_ek (c_seq (c_sp (x_u 2 [(72, Vi x23.2), (73, .bool (x23.2 != 0))] (x_ek ?_)))))
 refine c_if (x23.2 != 0) rfl h (fun h => ?_) (fun h => ?_)
 · refine c_sp (x_u 2 [(74, Vi x23.2), (4, Vi x23.2)] (x_ek (c_nm [(4, Vi x23.2)] (fun J => ?_))))
   refine c_ret (k_then_ret (r_ret (r_vals [Vi x23.2] ⟨rfl, trivial⟩ ?_)))
   obtain rfl := some_inj h
   exact ⟨rfl, hev⟩
 refine c_skip (k_then (c_seq (c_sp (x_u 1 [(76, Vi x23.1)] ?_))))
 obtain ⟨x26, hx, h⟩ := bind_some h
 have hcall := code_Steps_w x23.1 _ w24 hx
 refine x_call 81 #[] #[] [Vi x23.1] _ rfl rfl rfl rfl hcall ?_
 rintro v w27 ⟨rfl, he27⟩
 clear hcall hx
 refine inl1 ?_
 replace hb6 := he27.box hb6 nn
 replace hev := hev.ext he27
 refine x_u 5 [(75, .tuple #[Vi x26.1, Vi x26.2]), (78, Vi x26.1), (79, Vi x26.2), (12, Vi x26.1), (13, Vi x26.2)] (x_ek (c_nm [(3, Vp b6 0), (12, Vi x26.1), (13, Vi x26.2)] (fun J => ?_)))
 refine c_sp (x_u 3 [(80, Vi x26.2), (81, .bool (x26.2 != 0)), (82, .bool (x26.2 != 0))] (x_if 82 (x26.2 != 0) rfl h (fun h => ?_) (fun h => ?_)))
 · refine x_u 6 [(83, undef), (84, undef), (85, undef), (86, undef), (87, undef), (88, .bool true)] (x_ek (c_true rfl (c_sp (x_u 1 [(4, Vi 17)] (x_ek ?_)))))
   refine c_ret (k_then_ret (r_ret (r_vals [Vi 17] ⟨rfl, trivial⟩ ?_)))
   obtain rfl := some_inj h
   exact ⟨rfl, hev⟩
 refine x_u 1 [(83, Vi x26.1)] (x_fieldAddr (xv := Vp b6 0) (Vp b6 0) rfl rfl rfl (reads_field tfld54_0 _ _) (x_fieldAddr (xv := Vp b6 0) (Vp b6 0) rfl rfl rfl (reads_field tfld52_0 _ _) (x_load (xv := Vp b6 0) (Vi p1_0_0) rfl rfl rfl (reads_box tcell3 hb6 nn 0 _ rfl) (x_u 2 [(87, .bool (x26.1 != p1_0_0)), (88, .bool (x26.1 != p1_0_0))] (x_ek ?_)))))
 refine c_if (x26.1 != p1_0_0) rfl h (fun h => ?_) (fun h => ?_)
 · refine c_sp (x_u 1 [(4, Vi 17)] (x_ek (c_ret (k_then_ret (r_ret (r_vals [Vi 17] ⟨rfl, trivial⟩ ?_))))))
   obtain rfl := some_inj h
   exact ⟨rfl, hev⟩
 refine c_skip (k_then (c_sp (x_u 1 [(4, Vi 0)] (x_ek (c_ret ?_)))))
 refine r_ret (r_vals [Vi 0] ⟨rfl, trivial⟩ ?_)
 obtain rfl := some_inj h
 exact ⟨rfl, hev⟩
end Go.Proofs.YtlejnkhaphlooaaGreat
