
/- Walks, printed by program: each function returns what the partial function of the same name returns. Conditions: those of each theorem. -/
import Derived.Test.YtlejnkhaphlooaaGreatGT
import Derived.Test.YtlejnkhaphlooaaGreatGleastcode
set_option linter.unusedVariables false
set_option linter.unusedSimpArgs false
set_option maxRecDepth 4000
namespace Go.Proofs.YtlejnkhaphlooaaGreat
open Go Go.V Go.Proofs
def certificate_Make (p0_0 : List (Int × Int × Int × Int)) (p0_1 : Int) : Option (((Int × (List Int)) × (List Int)) × Int) :=
((leastcode_Least p0_0 p0_1).bind fun x6 =>
(if (x6.2 != 0) = true then
some (((0, []), []), x6.2)
else
((leastcode_Witness p0_0 p0_1).bind fun x14 =>
(if (x14.2 != 0) = true then
some (((0, []), []), x14.2)
else
some (((x6.1.1, x6.1.2), x14.1), 0)))))

theorem certificate_Make_w (a_p0_0 : Option Addr) (c_p0_0 : Nat) (p0_0 : List (Int × Int × Int × Int)) (p0_1 : Int) (r : ((Int × (List Int)) × (List Int)) × Int) (w : World) (M : List Nat) (hms : MS w [M]) (hs_p0_0 : SlR (eIt4) w (fl [M]) a_p0_0 c_p0_0 p0_0) (h : certificate_Make p0_0 p0_1 = some r) : CallVC Tryz.prog 21 [.agg #[Vl a_p0_0 p0_0 c_p0_0, Vi p0_1]] w fun v w' => ∃ (a0' : Option Addr), ∃ (c0' : Nat), ∃ (a2' : Option Addr), ∃ (c2' : Nat), v = .tuple #[.agg #[Vi r.1.1.1, Vl a0' r.1.1.2 c0', Vl a2' r.1.2 c2'], Vi r.2] ∧ Ev [] w w' ∧ MS w' [blk a0', blk a2', M] ∧ FR w.heap.size [blk a0', blk a2'] ∧ OwnS (eInt .i64) 3 w' (fl [blk a0', blk a2', M]) a0' c0' r.1.1.2 ∧ OwnS (eInt .i64) 3 w' (fl [blk a0', blk a2', M]) a2' c2' r.1.2 := by
 refine calls_vc hmx Tryz.func21 (by kernel_rfl) rfl (rs := [.cell 2 54, .tmp 3]) rfl (by kernel_rfl) (args := [.agg #[Vl a_p0_0 p0_0 c_p0_0, Vi p0_1]]) rfl ?_
 have hev : Ev [] w w := Ev.refl _ _
 have hfr : FR w.heap.size [] := FR.nil _
 refine c_sp (x_box (xv := .agg #[Vl a_p0_0 p0_0 c_p0_0, Vi p0_1]) rfl rfl rfl (fun b2 w2 hq2 hb2 he2 hz2 => ?_))
 replace hb2 : w2.heap[b2]? = some (.cells #[Vl a_p0_0 p0_0 c_p0_0, Vi p0_1] 50 (0, 0)) := hb2
 refine inl1 ?_
 have hst := Stp.box (ls := [M]) he2 hq2
 replace hs_p0_0 := hs_p0_0.step hst
 replace hms := hms.box he2 hq2 hb2
 replace hfr := hfr.box hev.size hq2
 replace hev := hev.ext he2
 refine x_alloc (z := .agg #[Vi 0, .slice none 0 0, .slice none 0 0]) rfl rfl (by kernel_rfl) (fun b4 w4 hq4 hb4 he4 hz4 => ?_)
 replace hb4 : w4.heap[b4]? = some (.cells #[Vi 0, .slice none 0 0, .slice none 0 0] 54 (0, 0)) := hb4
 refine inl1 ?_
 have hst := Stp.box (ls := [[b2], M]) he4 hq4
 replace hs_p0_0 := hs_p0_0.step hst
 replace hb2 := he4.box hb2 nn
 replace hms := hms.box he4 hq4 hb4
 replace hfr := hfr.box hev.size hq4
 replace hev := hev.ext he4
 refine x_u 1 [(3, Vi 0)] (x_ek (c_sp (x_load (xv := Vp b2 0) (.agg #[Vl a_p0_0 p0_0 c_p0_0, Vi p0_1]) rfl rfl rfl (reads_boxagg 0 [Vl a_p0_0 p0_0 c_p0_0, Vi p0_1] tagg50 hb2 nn rfl) ?_)))
 obtain ⟨x6, hx, h⟩ := bind_some h
 have hcall := leastcode_Least_w a_p0_0 c_p0_0 p0_0 p0_1 _ w4 (fl [[b4], [b2], M]) (MS.fold (P := []) hms) (hs_p0_0.sub fl1) hx
 refine x_call 51 #[] #[] [.agg #[Vl a_p0_0 p0_0 c_p0_0, Vi p0_1]] _ rfl rfl rfl rfl hcall ?_
 rintro v w7 ⟨a0_7, c0_7, rfl, he7, hmn7, hfn7, hf7_1⟩
 clear hcall hx
 refine inl1 ?_
 have hst := Stp.call0 [[b4], [b2], M] [blk a0_7] [blk a0_7, [b4], [b2], M] he7 hfn7 rfl
 replace hs_p0_0 := hs_p0_0.step hst
 replace hb2 := he7.box hb2 nn
 replace hb4 := he7.box hb4 nn
 replace hms := MS.call0 [blk a0_7] [blk a0_7, [b4], [b2], M] hms he7 hmn7 hfn7 rfl
 have hfr2 := FR.call0 [blk a0_7, [b4], [b2]] hev.size hfn7 hfr rfl
 replace hev := hev.ext he7
 replace hfr := hfr2
 clear hfr2
 replace hf7_1 := OwnS.plain (M' := fl [blk a0_7, [b4], [b2], M]) (plain_int _) hf7_1
 clear hst
 refine x_u 3 [(7, .tuple #[.agg #[Vi x6.1.1, Vl a0_7 x6.1.2 c0_7], Vi x6.2]), (10, .agg #[Vi x6.1.1, Vl a0_7 x6.1.2 c0_7]), (11, Vi x6.2)] (x_alloc (z := .agg #[Vi 0, .slice none 0 0]) rfl rfl (by kernel_rfl) (fun b9 w9 hq9 hb9 he9 hz9 => ?_))
 replace hb9 : w9.heap[b9]? = some (.cells #[Vi 0, .slice none 0 0] 52 (0, 0)) := hb9
 refine inl1 ?_
 have hst := Stp.box (ls := [blk a0_7, [b4], [b2], M]) he9 hq9
 replace hs_p0_0 := hs_p0_0.step hst
 replace hb2 := he9.box hb2 nn
 replace hb4 := he9.box hb4 nn
 replace hf7_1 := hf7_1.step hst he9 nn2
 replace hms := hms.box he9 hq9 hb9
 replace hfr := hfr.box hev.size hq9
 replace hev := hev.ext he9
 obtain ⟨w11, hr11, hb11, he11⟩ := store_boxagg 0 [Vi x6.1.1, Vl a0_7 x6.1.2 c0_7] #[Vi x6.1.1, Vl a0_7 x6.1.2 c0_7] tagg52 hb9 rfl rfl rfl
 refine x_store w11 (xv := Vp b9 0) (yv := .agg #[Vi x6.1.1, Vl a0_7 x6.1.2 c0_7]) rfl rfl rfl rfl hr11 (inl1 ?_)
 have hst := Stp.ev' (ls := [[b9], blk a0_7, [b4], [b2], M]) he11 (mem_flat 0 rfl)
 replace hs_p0_0 := hs_p0_0.step hst
 replace hb2 := he11.box hb2 (hms.apart 3 0 rfl rfl rfl _ mem1)
 replace hb4 := he11.box hb4 (hms.apart 2 0 rfl rfl rfl _ mem1)
 replace hf7_1 := hf7_1.step hst he11 (hms.apart 1 0 rfl rfl rfl)
 replace hms := hms.ev he11
 replace hev := hev.then he11 (fun b hb => .inr (hfr.at 0 rfl b hb))
 replace hb9 := hb11
 refine x_u 1 [(5, Vi x6.2)] (x_ek (c_seq (c_sp (x_u 2 [(12, Vi x6.2), (13, .bool (x6.2 != 0))] (x_ek ?_)))))
 refine c_if (x6.2 != 0) rfl h (fun h => ?_) (fun h => ?_)
 · refine c_sp (x_build (vs := []) (.agg #[Vi 0, .slice none 0 0, .slice none 0 0]) rfl rfl rfl (fun _ _ => by kernel_rfl) ?_)
   refine x_u 1 [(15, Vi x6.2)] ?_
   obtain ⟨w13, hr13, hb13, he13⟩ := store_boxagg 0 [Vi 0, .slice none 0 0, .slice none 0 0] #[Vi 0, .slice none 0 0, .slice none 0 0] tagg54 hb4 rfl rfl rfl
   refine x_store w13 (xv := Vp b4 0) (yv := .agg #[Vi 0, .slice none 0 0, .slice none 0 0]) rfl rfl rfl rfl hr13 (inl1 ?_)
   replace hms := hms.ev he13
   replace hev := hev.then he13 (fun b hb => .inr (hfr.at 2 rfl b hb))
   replace hb4 := hb13
   refine x_u 1 [(3, Vi x6.2)] (x_ek (c_nm [(2, Vp b4 0), (3, Vi x6.2)] (fun J => ?_)))
   refine c_ret (k_then_ret (r_ret (r_vals [.agg #[Vi 0, .slice none 0 0, .slice none 0 0], Vi x6.2] ⟨⟨_, rfl, loadVar_of_reads (reads_boxagg (Mo := []) 0 [Vi 0, .slice none 0 0, .slice none 0 0] tagg54 hb4 nn rfl)⟩, rfl, trivial⟩ ?_)))
   obtain rfl := some_inj h
   have hmr := hms.pick [none, none, some 4] [blk none, blk none, M] rfl
   have hfe := hfr.pick [none, none] [blk none, blk none] rfl
   exact ⟨none, 0, none, 0, rfl, hev, hmr, hfe, OwnS.nil _ _ _ _, OwnS.nil _ _ _ _⟩
 refine c_skip (k_then (c_sp (x_load (xv := Vp b2 0) (.agg #[Vl a_p0_0 p0_0 c_p0_0, Vi p0_1]) rfl rfl rfl (reads_boxagg 0 [Vl a_p0_0 p0_0 c_p0_0, Vi p0_1] tagg50 hb2 nn rfl) ?_)))
 obtain ⟨x14, hx, h⟩ := bind_some h
 have hcall := leastcode_Witness_w a_p0_0 c_p0_0 p0_0 p0_1 _ w11 (fl [[b9], blk a0_7, [b4], [b2], M]) (MS.fold (P := []) hms) (hs_p0_0.sub fl1) hx
 refine x_call 52 #[] #[] [.agg #[Vl a_p0_0 p0_0 c_p0_0, Vi p0_1]] _ rfl rfl rfl rfl hcall ?_
 rintro v w15 ⟨a0_15, c0_15, rfl, he15, hmn15, hfn15, hf15_1⟩
 clear hcall hx
 refine inl1 ?_
 have hst := Stp.call0 [[b9], blk a0_7, [b4], [b2], M] [blk a0_15] [blk a0_15, [b9], blk a0_7, [b4], [b2], M] he15 hfn15 rfl
 replace hb4 := he15.box hb4 nn
 replace hf7_1 := hf7_1.step hst he15 nn2
 replace hb9 := he15.box hb9 nn
 replace hms := MS.call0 [blk a0_15] [blk a0_15, [b9], blk a0_7, [b4], [b2], M] hms he15 hmn15 hfn15 rfl
 have hfr2 := FR.call0 [blk a0_15, [b9], blk a0_7, [b4], [b2]] hev.size hfn15 hfr rfl
 replace hev := hev.ext he15
 replace hfr := hfr2
 clear hfr2
 replace hf15_1 := OwnS.plain (M' := fl [blk a0_15, [b9], blk a0_7, [b4], [b2], M]) (plain_int _) hf15_1
 clear hst
 refine x_u 5 [(16, .tuple #[Vl a0_15 x14.1 c0_15, Vi x14.2]), (19, Vl a0_15 x14.1 c0_15), (20, Vi x14.2), (6, Vl a0_15 x14.1 c0_15), (5, Vi x14.2)] (x_ek (c_nm [(2, Vp b4 0), (4, Vp b9 0), (5, Vi x14.2), (6, Vl a0_15 x14.1 c0_15)] (fun J => ?_)))
 refine c_seq (c_sp (x_u 2 [(21, Vi x14.2), (22, .bool (x14.2 != 0))] (x_ek (c_if (x14.2 != 0) rfl h (fun h => ?_) (fun h => ?_)))))
 · refine c_sp (x_build (vs := []) (.agg #[Vi 0, .slice none 0 0, .slice none 0 0]) rfl rfl rfl (fun _ _ => by kernel_rfl) ?_)
   refine x_u 1 [(24, Vi x14.2)] ?_
   obtain ⟨w17, hr17, hb17, he17⟩ := store_boxagg 0 [Vi 0, .slice none 0 0, .slice none 0 0] #[Vi 0, .slice none 0 0, .slice none 0 0] tagg54 hb4 rfl rfl rfl
   refine x_store w17 (xv := Vp b4 0) (yv := .agg #[Vi 0, .slice none 0 0, .slice none 0 0]) rfl rfl rfl rfl hr17 (inl1 ?_)
   replace hms := hms.ev he17
   replace hev := hev.then he17 (fun b hb => .inr (hfr.at 3 rfl b hb))
   replace hb4 := hb17
   refine x_u 1 [(3, Vi x14.2)] (x_ek (c_ret (k_then_ret (r_ret (r_vals [.agg #[Vi 0, .slice none 0 0, .slice none 0 0], Vi x14.2] ⟨⟨_, rfl, loadVar_of_reads (reads_boxagg (Mo := []) 0 [Vi 0, .slice none 0 0, .slice none 0 0] tagg54 hb4 nn rfl)⟩, rfl, trivial⟩ ?_)))))
   obtain rfl := some_inj h
   have hmr := hms.pick [none, none, some 5] [blk none, blk none, M] rfl
   have hfe := hfr.pick [none, none] [blk none, blk none] rfl
   exact ⟨none, 0, none, 0, rfl, hev, hmr, hfe, OwnS.nil _ _ _ _, OwnS.nil _ _ _ _⟩
 refine c_skip (k_then (c_sp (x_load (xv := Vp b9 0) (.agg #[Vi x6.1.1, Vl a0_7 x6.1.2 c0_7]) rfl rfl rfl (reads_boxagg 0 [Vi x6.1.1, Vl a0_7 x6.1.2 c0_7] tagg52 hb9 nn rfl) (x_u 1 [(26, Vl a0_15 x14.1 c0_15)] (x_build (vs := [(0, .agg #[Vi x6.1.1, Vl a0_7 x6.1.2 c0_7]), (1, Vl a0_15 x14.1 c0_15)]) (.agg #[Vi x6.1.1, Vl a0_7 x6.1.2 c0_7, Vl a0_15 x14.1 c0_15]) rfl rfl rfl (fun _ _ => by kernel_rfl) ?_)))))
 obtain ⟨w18, hr18, hb18, he18⟩ := store_boxagg 0 [Vi x6.1.1, Vl a0_7 x6.1.2 c0_7, Vl a0_15 x14.1 c0_15] #[Vi x6.1.1, Vl a0_7 x6.1.2 c0_7, Vl a0_15 x14.1 c0_15] tagg54 hb4 rfl rfl rfl
 refine x_store w18 (xv := Vp b4 0) (yv := .agg #[Vi x6.1.1, Vl a0_7 x6.1.2 c0_7, Vl a0_15 x14.1 c0_15]) rfl rfl rfl rfl hr18 (inl1 ?_)
 have hst := Stp.ev' (ls := [blk a0_15, [b9], blk a0_7, [b4], [b2], M]) he18 (mem_flat 3 rfl)
 replace hf7_1 := hf7_1.step hst he18 (hms.apart 2 3 rfl rfl rfl)
 replace hf15_1 := hf15_1.step hst he18 (hms.apart 0 3 rfl rfl rfl)
 replace hms := hms.ev he18
 replace hev := hev.then he18 (fun b hb => .inr (hfr.at 3 rfl b hb))
 replace hb4 := hb18
 refine x_u 1 [(3, Vi 0)] (x_ek (c_ret (r_ret (r_vals [.agg #[Vi x6.1.1, Vl a0_7 x6.1.2 c0_7, Vl a0_15 x14.1 c0_15], Vi 0] ⟨⟨_, rfl, loadVar_of_reads (reads_boxagg (Mo := []) 0 [Vi x6.1.1, Vl a0_7 x6.1.2 c0_7, Vl a0_15 x14.1 c0_15] tagg54 hb4 nn rfl)⟩, rfl, trivial⟩ ?_))))
 obtain rfl := some_inj h
 have hmr := hms.pick [some 2, some 0, some 5] [blk a0_7, blk a0_15, M] rfl
 have hsu := pick_sub (ls := [blk a0_15, [b9], blk a0_7, [b4], [b2], M]) [some 2, some 0, some 5] [blk a0_7, blk a0_15, M] rfl
 have hfe := hfr.pick [some 2, some 0] [blk a0_7, blk a0_15] rfl
 exact ⟨a0_7, c0_7, a0_15, c0_15, rfl, hev, hmr, hfe, hf7_1.sub hsu, hf15_1.sub hsu⟩

end Go.Proofs.YtlejnkhaphlooaaGreat
