
/- Walks, printed by program: each function returns what the partial function of the same name returns. Conditions: those of each theorem. -/
import Derived.Test.YtlejnkhaphlooaaGreatGT
import Derived.Test.YtlejnkhaphlooaaGreatGassign
import Derived.Test.YtlejnkhaphlooaaGreatGcertificate
import Derived.Test.YtlejnkhaphlooaaGreatGconsist
import Derived.Test.YtlejnkhaphlooaaGreatGjob
import Derived.Test.YtlejnkhaphlooaaGreatGleastcode
import Derived.Test.YtlejnkhaphlooaaGreatGrollin
import Derived.Test.YtlejnkhaphlooaaGreatGslices
import Derived.Test.YtlejnkhaphlooaaGreatGslplanner
set_option linter.unusedVariables false
set_option linter.unusedSimpArgs false
set_option maxRecDepth 4000
namespace Go.Proofs.YtlejnkhaphlooaaGreat
open Go Go.V Go.Proofs
def planner_scheme (p0 : List (Int × Int × Int × Int)) (p1 : Int) : Option ((Int × Int × Int × Int) × (Int × (List Int)) × Bool) :=
((leastcode_Least p0 p1).bind fun x9 =>
(if (x9.2 != 0) = true then
some ((0, 0, 0, 0), (0, []), false)
else
((rollin_Run p0 p1 x9.1.1 x9.1.2).bind fun x18 =>
(if (x18.2 != 0) = true then
some ((0, 0, 0, 0), (0, []), false)
else
((rollin_Pushes p0 p1 x9.1.1 x9.1.2).bind fun x27 =>
some ((p1, x9.1.1, x18.1.2, x27.1), (x9.1.1, x9.1.2), true))))))
theorem planner_scheme_w (a_p0 : Option Addr) (c_p0 : Nat) (p0 : List (Int × Int × Int × Int)) (p1 : Int) (r : (Int × Int × Int × Int) × (Int × (List Int)) × Bool) (w : World) (M : List Nat) (hms : MS w [M]) (hs_p0 : SlR (eIt4) w (fl [M]) a_p0 c_p0 p0) (h : planner_scheme p0 p1 = some r) : CallVC Tryz.prog 47 [Vl a_p0 p0 c_p0, Vi p1] w fun v w' => ∃ (a0' : Option Addr), ∃ (c0' : Nat), v = .tuple #[.agg #[Vi r.1.1, Vi r.1.2.1, Vi r.1.2.2.1, Vi r.1.2.2.2], .agg #[Vi r.2.1.1, Vl a0' r.2.1.2 c0'], .bool r.2.2] ∧ Ev [] w w' ∧ MS w' [blk a0', M] ∧ FR w.heap.size [blk a0'] ∧ OwnS (eInt .i64) 3 w' (fl [blk a0', M]) a0' c0' r.2.1.2 := by
 refine calls_vc hmx Tryz.func47 (by kernel_rfl) rfl (rs := [.cell 4 48, .cell 5 52, .tmp 6]) rfl (by kernel_rfl) (args := [Vl a_p0 p0 c_p0, Vi p1]) rfl ?_
 have hev : Ev [] w w := Ev.refl _ _
 have hfr : FR w.heap.size [] := FR.nil _
 refine c_sp (x_alloc (z := .agg #[Vi 0, Vi 0, Vi 0, Vi 0]) rfl rfl (by kernel_rfl) (fun b2 w2 hq2 hb2 he2 hz2 => ?_))
 replace hb2 : w2.heap[b2]? = some (.cells #[Vi 0, Vi 0, Vi 0, Vi 0] 48 (0, 0)) := hb2
 refine inl1 ?_
 have hst := Stp.box (ls := [M]) he2 hq2
 replace hs_p0 := hs_p0.step hst
 replace hms := hms.box he2 hq2 hb2
 replace hfr := hfr.box hev.size hq2
 replace hev := hev.ext he2
 refine x_alloc (z := .agg #[Vi 0, .slice none 0 0]) rfl rfl (by kernel_rfl) (fun b4 w4 hq4 hb4 he4 hz4 => ?_)
 replace hb4 : w4.heap[b4]? = some (.cells #[Vi 0, .slice none 0 0] 52 (0, 0)) := hb4
 refine inl1 ?_
 have hst := Stp.box (ls := [[b2], M]) he4 hq4
 replace hs_p0 := hs_p0.step hst
 replace hb2 := he4.box hb2 nn
 replace hms := hms.box he4 hq4 hb4
 replace hfr := hfr.box hev.size hq4
 replace hev := hev.ext he4
 refine x_u 1 [(6, .bool false)] (x_ek (c_sp (x_u 2 [(13, Vl a_p0 p0 c_p0), (14, Vi p1)] (x_build (vs := [(0, Vl a_p0 p0 c_p0), (1, Vi p1)]) (.agg #[Vl a_p0 p0 c_p0, Vi p1]) rfl rfl rfl (fun _ _ => by kernel_rfl) ?_))))
 refine x_alloc (z := .agg #[.slice none 0 0, Vi 0]) rfl rfl (by kernel_rfl) (fun b6 w6 hq6 hb6 he6 hz6 => ?_)
 replace hb6 : w6.heap[b6]? = some (.cells #[.slice none 0 0, Vi 0] 50 (0, 0)) := hb6
 refine inl1 ?_
 have hst := Stp.box (ls := [[b4], [b2], M]) he6 hq6
 replace hs_p0 := hs_p0.step hst
 replace hb2 := he6.box hb2 nn
 replace hb4 := he6.box hb4 nn
 replace hms := hms.box he6 hq6 hb6
 replace hfr := hfr.box hev.size hq6
 replace hev := hev.ext he6
 obtain ⟨w8, hr8, hb8, he8⟩ := store_boxagg 0 [Vl a_p0 p0 c_p0, Vi p1] #[Vl a_p0 p0 c_p0, Vi p1] tagg50 hb6 rfl rfl rfl
 refine x_store w8 (xv := Vp b6 0) (yv := .agg #[Vl a_p0 p0 c_p0, Vi p1]) rfl rfl rfl rfl hr8 (inl1 ?_)
 have hst := Stp.ev' (ls := [[b6], [b4], [b2], M]) he8 (mem_flat 0 rfl)
 replace hs_p0 := hs_p0.step hst
 replace hb2 := he8.box hb2 (hms.apart 2 0 rfl rfl rfl _ mem1)
 replace hb4 := he8.box hb4 (hms.apart 1 0 rfl rfl rfl _ mem1)
 replace hms := hms.ev he8
 replace hev := hev.then he8 (fun b hb => .inr (hfr.at 0 rfl b hb))
 replace hb6 := hb8
 refine x_ek (c_sp (x_load (xv := Vp b6 0) (.agg #[Vl a_p0 p0 c_p0, Vi p1]) rfl rfl rfl (reads_boxagg 0 [Vl a_p0 p0 c_p0, Vi p1] tagg50 hb6 nn rfl) ?_))
 obtain ⟨x9, hx, h⟩ := bind_some h
 have hcall := leastcode_Least_w a_p0 c_p0 p0 p1 _ w8 (fl [[b6], [b4], [b2], M]) (MS.fold (P := []) hms) (hs_p0.sub fl1) hx
 refine x_call 51 #[] #[] [.agg #[Vl a_p0 p0 c_p0, Vi p1]] _ rfl rfl rfl rfl hcall ?_
 rintro v w10 ⟨a0_10, c0_10, rfl, he10, hmn10, hfn10, hf10_1⟩
 clear hcall hx
 refine inl1 ?_
 have hst := Stp.call0 [[b6], [b4], [b2], M] [blk a0_10] [blk a0_10, [b6], [b4], [b2], M] he10 hfn10 rfl
 replace hs_p0 := hs_p0.step hst
 replace hb2 := he10.box hb2 nn
 replace hb4 := he10.box hb4 nn
 replace hb6 := he10.box hb6 nn
 replace hms := MS.call0 [blk a0_10] [blk a0_10, [b6], [b4], [b2], M] hms he10 hmn10 hfn10 rfl
 have hfr2 := FR.call0 [blk a0_10, [b6], [b4], [b2]] hev.size hfn10 hfr rfl
 replace hev := hev.ext he10
 replace hfr := hfr2
 clear hfr2
 replace hf10_1 := OwnS.plain (M' := fl [blk a0_10, [b6], [b4], [b2], M]) (plain_int _) hf10_1
 clear hst
 refine x_u 3 [(16, .tuple #[.agg #[Vi x9.1.1, Vl a0_10 x9.1.2 c0_10], Vi x9.2]), (19, .agg #[Vi x9.1.1, Vl a0_10 x9.1.2 c0_10]), (20, Vi x9.2)] (x_alloc (z := .agg #[Vi 0, .slice none 0 0]) rfl rfl (by kernel_rfl) (fun b12 w12 hq12 hb12 he12 hz12 => ?_))
 replace hb12 : w12.heap[b12]? = some (.cells #[Vi 0, .slice none 0 0] 52 (0, 0)) := hb12
 refine inl1 ?_
 have hst := Stp.box (ls := [blk a0_10, [b6], [b4], [b2], M]) he12 hq12
 replace hs_p0 := hs_p0.step hst
 replace hb2 := he12.box hb2 nn
 replace hb4 := he12.box hb4 nn
 replace hb6 := he12.box hb6 nn
 replace hf10_1 := hf10_1.step hst he12 nn2
 replace hms := hms.box he12 hq12 hb12
 replace hfr := hfr.box hev.size hq12
 replace hev := hev.ext he12
 obtain ⟨w14, hr14, hb14, he14⟩ := store_boxagg 0 [Vi x9.1.1, Vl a0_10 x9.1.2 c0_10] #[Vi x9.1.1, Vl a0_10 x9.1.2 c0_10] tagg52 hb12 rfl rfl rfl
 refine x_store w14 (xv := Vp b12 0) (yv := .agg #[Vi x9.1.1, Vl a0_10 x9.1.2 c0_10]) rfl rfl rfl rfl hr14 (inl1 ?_)
 have hst := Stp.ev' (ls := [[b12], blk a0_10, [b6], [b4], [b2], M]) he14 (mem_flat 0 rfl)
 replace hs_p0 := hs_p0.step hst
 replace hb2 := he14.box hb2 (hms.apart 4 0 rfl rfl rfl _ mem1)
 replace hb4 := he14.box hb4 (hms.apart 3 0 rfl rfl rfl _ mem1)
 replace hb6 := he14.box hb6 (hms.apart 2 0 rfl rfl rfl _ mem1)
 replace hf10_1 := hf10_1.step hst he14 (hms.apart 1 0 rfl rfl rfl)
 replace hms := hms.ev he14
 replace hev := hev.then he14 (fun b hb => .inr (hfr.at 0 rfl b hb))
 replace hb12 := hb14
 refine x_u 1 [(9, Vi x9.2)] (x_ek (c_nm [(1, Vi p1), (4, Vp b2 0), (5, Vp b4 0), (7, Vp b6 0), (8, Vp b12 0), (9, Vi x9.2)] (fun J => ?_)))
 refine c_seq (c_sp (x_u 2 [(21, Vi x9.2), (22, .bool (x9.2 != 0))] (x_ek (c_if (x9.2 != 0) rfl h (fun h => ?_) (fun h => ?_)))))
 · refine c_sp (x_build (vs := []) (.agg #[Vi 0, Vi 0, Vi 0, Vi 0]) rfl rfl rfl (fun _ _ => by kernel_rfl) ?_)
   refine x_build (vs := []) (.agg #[Vi 0, .slice none 0 0]) rfl rfl rfl (fun _ _ => by kernel_rfl) ?_
   obtain ⟨w16, hr16, hb16, he16⟩ := store_boxagg 0 [Vi 0, Vi 0, Vi 0, Vi 0] #[Vi 0, Vi 0, Vi 0, Vi 0] tagg48 hb2 rfl rfl rfl
   refine x_store w16 (xv := Vp b2 0) (yv := .agg #[Vi 0, Vi 0, Vi 0, Vi 0]) rfl rfl rfl rfl hr16 (inl1 ?_)
   replace hb4 := he16.box hb4 (hms.apart 3 4 rfl rfl rfl _ mem1)
   replace hms := hms.ev he16
   replace hev := hev.then he16 (fun b hb => .inr (hfr.at 4 rfl b hb))
   replace hb2 := hb16
   obtain ⟨w17, hr17, hb17, he17⟩ := store_boxagg 0 [Vi 0, .slice none 0 0] #[Vi 0, .slice none 0 0] tagg52 hb4 rfl rfl rfl
   refine x_store w17 (xv := Vp b4 0) (yv := .agg #[Vi 0, .slice none 0 0]) rfl rfl rfl rfl hr17 (inl1 ?_)
   replace hb2 := he17.box hb2 (hms.apart 4 3 rfl rfl rfl _ mem1)
   replace hms := hms.ev he17
   replace hev := hev.then he17 (fun b hb => .inr (hfr.at 3 rfl b hb))
   replace hb4 := hb17
   refine x_u 1 [(6, .bool false)] (x_ek (c_ret (k_then_ret (r_ret (r_vals [.agg #[Vi 0, Vi 0, Vi 0, Vi 0], .agg #[Vi 0, .slice none 0 0], .bool false] ⟨⟨_, rfl, loadVar_of_reads (reads_boxagg (Mo := []) 0 [Vi 0, Vi 0, Vi 0, Vi 0] tagg48 hb2 nn rfl)⟩, ⟨_, rfl, loadVar_of_reads (reads_boxagg (Mo := []) 0 [Vi 0, .slice none 0 0] tagg52 hb4 nn rfl)⟩, rfl, trivial⟩ ?_)))))
   obtain rfl := some_inj h
   have hmr := hms.pick [none, some 5] [blk none, M] rfl
   have hfe := hfr.pick [none] [blk none] rfl
   exact ⟨none, 0, rfl, hev, hmr, hfe, OwnS.nil _ _ _ _⟩
 refine c_skip (k_then (c_sp (x_load (xv := Vp b6 0) (.agg #[Vl a_p0 p0 c_p0, Vi p1]) rfl rfl rfl (reads_boxagg 0 [Vl a_p0 p0 c_p0, Vi p1] tagg50 hb6 nn rfl) (x_load (xv := Vp b12 0) (.agg #[Vi x9.1.1, Vl a0_10 x9.1.2 c0_10]) rfl rfl rfl (reads_boxagg 0 [Vi x9.1.1, Vl a0_10 x9.1.2 c0_10] tagg52 hb12 nn rfl) ?_))))
 obtain ⟨x18, hx, h⟩ := bind_some h
 have hpk := hms.pick [some 0, some 2, some 3, some 4, some 5] ([] ++ [[b12], [b6], [b4], [b2], M]) rfl
 have hsb := sub_fold (ls := [[b12], blk a0_10, [b6], [b4], [b2], M]) [some 0, some 2, some 3, some 4, some 5] [[b12], [b6], [b4], [b2], M] rfl
 have hcall := rollin_Run_w a_p0 c_p0 p0 p1 x9.1.1 a0_10 c0_10 x9.1.2 _ w14 (fl [[b12], [b6], [b4], [b2], M]) (MS.fold (P := []) hpk) (hs_p0.sub hsb) (hf10_1.ro hsb (pick_outf hms 1 rfl [some 0, some 2, some 3, some 4, some 5] [[b12], [b6], [b4], [b2], M] rfl rfl)) hx
 refine x_call 22 #[] #[] [.agg #[Vl a_p0 p0 c_p0, Vi p1], .agg #[Vi x9.1.1, Vl a0_10 x9.1.2 c0_10]] _ rfl rfl rfl rfl hcall ?_
 rintro v w19 ⟨a0_19, c0_19, B2_19, rfl, he19, hmn19, hfn19, hf19_1⟩
 clear hcall hx
 refine inl1 ?_
 have hst := Stp.call0 [[b12], blk a0_10, [b6], [b4], [b2], M] [B2_19] [B2_19, [b12], blk a0_10, [b6], [b4], [b2], M] he19 hfn19 rfl
 replace hs_p0 := hs_p0.step hst
 replace hb2 := he19.box hb2 nn
 replace hb4 := he19.box hb4 nn
 replace hb6 := he19.box hb6 nn
 replace hf10_1 := hf10_1.step hst he19 nn2
 replace hb12 := he19.box hb12 nn
 replace hms := MS.call0 [B2_19] [B2_19, [b12], blk a0_10, [b6], [b4], [b2], M] hms he19 hmn19 hfn19 rfl
 have hfr2 := FR.call0 [B2_19, [b12], blk a0_10, [b6], [b4], [b2]] hev.size hfn19 hfr rfl
 replace hev := hev.ext he19
 replace hfr := hfr2
 clear hfr2
 clear hpk hsb hst
 refine x_u 3 [(25, .tuple #[.agg #[Vl a0_19 x18.1.1 c0_19, Vi x18.1.2], Vi x18.2]), (29, .agg #[Vl a0_19 x18.1.1 c0_19, Vi x18.1.2]), (30, Vi x18.2)] (x_alloc (z := .agg #[.slice none 0 0, Vi 0]) rfl rfl (by kernel_rfl) (fun b21 w21 hq21 hb21 he21 hz21 => ?_))
 replace hb21 : w21.heap[b21]? = some (.cells #[.slice none 0 0, Vi 0] 59 (0, 0)) := hb21
 refine inl1 ?_
 have hst := Stp.box (ls := [B2_19, [b12], blk a0_10, [b6], [b4], [b2], M]) he21 hq21
 replace hs_p0 := hs_p0.step hst
 replace hb2 := he21.box hb2 nn
 replace hb4 := he21.box hb4 nn
 replace hb6 := he21.box hb6 nn
 replace hf10_1 := hf10_1.step hst he21 nn2
 replace hb12 := he21.box hb12 nn
 replace hms := hms.box he21 hq21 hb21
 replace hfr := hfr.box hev.size hq21
 replace hev := hev.ext he21
 obtain ⟨w23, hr23, hb23, he23⟩ := store_boxagg 0 [Vl a0_19 x18.1.1 c0_19, Vi x18.1.2] #[Vl a0_19 x18.1.1 c0_19, Vi x18.1.2] tagg59 hb21 rfl rfl rfl
 refine x_store w23 (xv := Vp b21 0) (yv := .agg #[Vl a0_19 x18.1.1 c0_19, Vi x18.1.2]) rfl rfl rfl rfl hr23 (inl1 ?_)
 have hst := Stp.ev' (ls := [[b21], B2_19, [b12], blk a0_10, [b6], [b4], [b2], M]) he23 (mem_flat 0 rfl)
 replace hs_p0 := hs_p0.step hst
 replace hb2 := he23.box hb2 (hms.apart 6 0 rfl rfl rfl _ mem1)
 replace hb4 := he23.box hb4 (hms.apart 5 0 rfl rfl rfl _ mem1)
 replace hb6 := he23.box hb6 (hms.apart 4 0 rfl rfl rfl _ mem1)
 replace hf10_1 := hf10_1.step hst he23 (hms.apart 3 0 rfl rfl rfl)
 replace hb12 := he23.box hb12 (hms.apart 2 0 rfl rfl rfl _ mem1)
 replace hms := hms.ev he23
 replace hev := hev.then he23 (fun b hb => .inr (hfr.at 0 rfl b hb))
 replace hb21 := hb23
 refine x_u 1 [(9, Vi x18.2)] (x_ek (c_seq (c_sp (x_u 2 [(31, Vi x18.2), (32, .bool (x18.2 != 0))] (x_ek ?_)))))
 refine c_if (x18.2 != 0) rfl h (fun h => ?_) (fun h => ?_)
 · refine c_sp (x_build (vs := []) (.agg #[Vi 0, Vi 0, Vi 0, Vi 0]) rfl rfl rfl (fun _ _ => by kernel_rfl) ?_)
   refine x_build (vs := []) (.agg #[Vi 0, .slice none 0 0]) rfl rfl rfl (fun _ _ => by kernel_rfl) ?_
   obtain ⟨w25, hr25, hb25, he25⟩ := store_boxagg 0 [Vi 0, Vi 0, Vi 0, Vi 0] #[Vi 0, Vi 0, Vi 0, Vi 0] tagg48 hb2 rfl rfl rfl
   refine x_store w25 (xv := Vp b2 0) (yv := .agg #[Vi 0, Vi 0, Vi 0, Vi 0]) rfl rfl rfl rfl hr25 (inl1 ?_)
   replace hb4 := he25.box hb4 (hms.apart 5 6 rfl rfl rfl _ mem1)
   replace hms := hms.ev he25
   replace hev := hev.then he25 (fun b hb => .inr (hfr.at 6 rfl b hb))
   replace hb2 := hb25
   obtain ⟨w26, hr26, hb26, he26⟩ := store_boxagg 0 [Vi 0, .slice none 0 0] #[Vi 0, .slice none 0 0] tagg52 hb4 rfl rfl rfl
   refine x_store w26 (xv := Vp b4 0) (yv := .agg #[Vi 0, .slice none 0 0]) rfl rfl rfl rfl hr26 (inl1 ?_)
   replace hb2 := he26.box hb2 (hms.apart 6 5 rfl rfl rfl _ mem1)
   replace hms := hms.ev he26
   replace hev := hev.then he26 (fun b hb => .inr (hfr.at 5 rfl b hb))
   replace hb4 := hb26
   refine x_u 1 [(6, .bool false)] (x_ek (c_nm [(4, Vp b2 0), (5, Vp b4 0), (6, .bool false)] (fun J => ?_)))
   refine c_ret (k_then_ret (r_ret (r_vals [.agg #[Vi 0, Vi 0, Vi 0, Vi 0], .agg #[Vi 0, .slice none 0 0], .bool false] ⟨⟨_, rfl, loadVar_of_reads (reads_boxagg (Mo := []) 0 [Vi 0, Vi 0, Vi 0, Vi 0] tagg48 hb2 nn rfl)⟩, ⟨_, rfl, loadVar_of_reads (reads_boxagg (Mo := []) 0 [Vi 0, .slice none 0 0] tagg52 hb4 nn rfl)⟩, rfl, trivial⟩ ?_)))
   obtain rfl := some_inj h
   have hmr := hms.pick [none, some 7] [blk none, M] rfl
   have hfe := hfr.pick [none] [blk none] rfl
   exact ⟨none, 0, rfl, hev, hmr, hfe, OwnS.nil _ _ _ _⟩
 refine c_skip (k_then (c_nm [(1, Vi p1), (4, Vp b2 0), (5, Vp b4 0), (7, Vp b6 0), (8, Vp b12 0), (10, Vp b21 0)] (fun J => ?_)))
 refine c_sp (x_load (xv := Vp b6 0) (.agg #[Vl a_p0 p0 c_p0, Vi p1]) rfl rfl rfl (reads_boxagg 0 [Vl a_p0 p0 c_p0, Vi p1] tagg50 hb6 nn rfl) (x_load (xv := Vp b12 0) (.agg #[Vi x9.1.1, Vl a0_10 x9.1.2 c0_10]) rfl rfl rfl (reads_boxagg 0 [Vi x9.1.1, Vl a0_10 x9.1.2 c0_10] tagg52 hb12 nn rfl) ?_))
 obtain ⟨x27, hx, h⟩ := bind_some h
 have hpk := hms.pick [some 0, some 1, some 2, some 4, some 5, some 6, some 7] ([] ++ [[b21], B2_19, [b12], [b6], [b4], [b2], M]) rfl
 have hsb := sub_fold (ls := [[b21], B2_19, [b12], blk a0_10, [b6], [b4], [b2], M]) [some 0, some 1, some 2, some 4, some 5, some 6, some 7] [[b21], B2_19, [b12], [b6], [b4], [b2], M] rfl
 have hcall := rollin_Pushes_w a_p0 c_p0 p0 p1 x9.1.1 a0_10 c0_10 x9.1.2 _ w23 (fl [[b21], B2_19, [b12], [b6], [b4], [b2], M]) (MS.fold (P := []) hpk) (hs_p0.sub hsb) (hf10_1.ro hsb (pick_outf hms 3 rfl [some 0, some 1, some 2, some 4, some 5, some 6, some 7] [[b21], B2_19, [b12], [b6], [b4], [b2], M] rfl rfl)) hx
 refine x_call 23 #[] #[] [.agg #[Vl a_p0 p0 c_p0, Vi p1], .agg #[Vi x9.1.1, Vl a0_10 x9.1.2 c0_10]] _ rfl rfl rfl rfl hcall ?_
 rintro v w28 ⟨rfl, he28⟩
 clear hcall hx
 refine inl1 ?_
 have hst := Stp.ext (ls := [[b21], B2_19, [b12], blk a0_10, [b6], [b4], [b2], M]) he28
 replace hb2 := he28.box hb2 nn
 replace hb4 := he28.box hb4 nn
 replace hf10_1 := hf10_1.step hst he28 nn2
 replace hb12 := he28.box hb12 nn
 replace hb21 := he28.box hb21 nn
 replace hms := hms.ev he28
 replace hev := hev.ext he28
 clear hpk hsb
 refine x_u 5 [(35, .tuple #[Vi x27.1, Vi x27.2]), (39, Vi x27.1), (40, Vi x27.2), (11, Vi x27.1), (12, Vi x27.2)] (x_ek (c_seq (c_drawn [b2] [(0, true), (1, true), (2, true), (3, true), (4, true), (5, true), (6, true), (7, false), (8, false), (9, true), (10, true)] _ (by kernel_rfl) rfl ?_)))
 have hst := Stp.ext (ls := [[b21], B2_19, [b12], blk a0_10, [b6], [b4], [b2], M]) (Ev.drew w28)
 replace hb2 := (Ev.drew w28).box hb2 nn
 replace hb4 := (Ev.drew w28).box hb4 nn
 replace hf10_1 := hf10_1.step hst (Ev.drew w28) nn2
 replace hb12 := (Ev.drew w28).box hb12 nn
 replace hb21 := (Ev.drew w28).box hb21 nn
 replace hms := hms.ev (Ev.drew w28)
 replace hev := hev.ext (Ev.drew w28)
 refine x_u 1 [(41, Vi p1)] (x_fieldAddr (xv := Vp b12 0) (Vp b12 0) rfl rfl rfl (reads_field tfld52_0 _ _) (x_load (xv := Vp b12 0) (Vi x9.1.1) rfl rfl rfl (reads_box tcell3 hb12 nn 0 _ rfl) (x_fieldAddr (xv := Vp b21 0) (Vp b21 1) rfl rfl rfl (reads_field tfld59_1 _ _) (x_load (xv := Vp b21 1) (Vi x18.1.2) rfl rfl rfl (reads_box tcell3 hb21 nn 1 _ rfl) (x_u 1 [(46, Vi x27.1)] ?_)))))
 refine x_build (vs := [(0, Vi p1), (1, Vi x9.1.1), (2, Vi x18.1.2), (3, Vi x27.1)]) (.agg #[Vi p1, Vi x9.1.1, Vi x18.1.2, Vi x27.1]) rfl rfl rfl (fun _ _ => by kernel_rfl) ?_
 refine x_load (xv := Vp b12 0) (.agg #[Vi x9.1.1, Vl a0_10 x9.1.2 c0_10]) rfl rfl rfl (reads_boxagg 0 [Vi x9.1.1, Vl a0_10 x9.1.2 c0_10] tagg52 hb12 ((hms.apart 2 6 rfl rfl rfl) _ mem1) rfl) ?_
 obtain ⟨w29, hr29, hb29, he29⟩ := store_boxagg 0 [Vi p1, Vi x9.1.1, Vi x18.1.2, Vi x27.1] #[Vi p1, Vi x9.1.1, Vi x18.1.2, Vi x27.1] tagg48 hb2 rfl rfl rfl
 refine x_store w29 (xv := Vp b2 0) (yv := .agg #[Vi p1, Vi x9.1.1, Vi x18.1.2, Vi x27.1]) rfl rfl rfl rfl hr29 (⟨.inr he29, ?_⟩)
 have hst := Stp.ev' (ls := [[b21], B2_19, [b12], blk a0_10, [b6], [b4], [b2], M]) he29 (mem_flat 6 rfl)
 replace hb4 := he29.box hb4 (hms.apart 5 6 rfl rfl rfl _ mem1)
 replace hf10_1 := hf10_1.step hst he29 (hms.apart 3 6 rfl rfl rfl)
 replace hms := hms.ev he29
 replace hev := hev.then he29 (fun b hb => .inr (hfr.at 6 rfl b hb))
 replace hb2 := hb29
 obtain ⟨w30, hr30, hb30, he30⟩ := store_boxagg 0 [Vi x9.1.1, Vl a0_10 x9.1.2 c0_10] #[Vi x9.1.1, Vl a0_10 x9.1.2 c0_10] tagg52 hb4 rfl rfl rfl
 refine x_store w30 (xv := Vp b4 0) (yv := .agg #[Vi x9.1.1, Vl a0_10 x9.1.2 c0_10]) rfl rfl rfl rfl hr30 (inl1 ?_)
 have hst := Stp.ev' (ls := [[b21], B2_19, [b12], blk a0_10, [b6], [b4], [b2], M]) he30 (mem_flat 5 rfl)
 replace hb2 := he30.box hb2 (hms.apart 6 5 rfl rfl rfl _ mem1)
 replace hf10_1 := hf10_1.step hst he30 (hms.apart 3 5 rfl rfl rfl)
 replace hms := hms.ev he30
 replace hev := hev.then he30 (fun b hb => .inr (hfr.at 5 rfl b hb))
 replace hb4 := hb30
 refine x_u 1 [(6, .bool true)] (x_ek (c_nm [(4, Vp b2 0), (5, Vp b4 0), (6, .bool true)] (fun J => ?_)))
 refine c_ret (r_ret (r_vals [.agg #[Vi p1, Vi x9.1.1, Vi x18.1.2, Vi x27.1], .agg #[Vi x9.1.1, Vl a0_10 x9.1.2 c0_10], .bool true] ⟨⟨_, rfl, loadVar_of_reads (reads_boxagg (Mo := []) 0 [Vi p1, Vi x9.1.1, Vi x18.1.2, Vi x27.1] tagg48 hb2 nn rfl)⟩, ⟨_, rfl, loadVar_of_reads (reads_boxagg (Mo := []) 0 [Vi x9.1.1, Vl a0_10 x9.1.2 c0_10] tagg52 hb4 nn rfl)⟩, rfl, trivial⟩ ?_))
 obtain rfl := some_inj h
 have hmr := hms.pick [some 3, some 7] [blk a0_10, M] rfl
 have hsu := pick_sub (ls := [[b21], B2_19, [b12], blk a0_10, [b6], [b4], [b2], M]) [some 3, some 7] [blk a0_10, M] rfl
 have hfe := hfr.pick [some 3] [blk a0_10] rfl
 exact ⟨a0_10, c0_10, rfl, hev, hmr, hfe, hf10_1.sub hsu⟩
def planner_Schemes_L6 (p0 : List (Int × Int × Int × Int)) (s : (List (Int × Int × Int × Int)) × Int) : Option (Step ((List (Int × Int × Int × Int)) × Int) (List (Int × Int × Int × Int))) :=
match s with
| (d8_l6, t18__s18_l6) =>
(if (decide (t18__s18_l6 < 4)) = true then
((idx ([0, 1, 2, 12] : List Int) t18__s18_l6).bind fun x12 =>
((planner_scheme p0 x12).bind fun x13 =>
(if x13.2.2 = true then
(if d8_l6.length + ([(x13.1.1, x13.1.2.1, x13.1.2.2.1, x13.1.2.2.2)] : List (Int × Int × Int × Int)).length ≤ 4294967296 then
some (.next ((d8_l6 ++ ([(x13.1.1, x13.1.2.1, x13.1.2.2.1, x13.1.2.2.2)] : List (Int × Int × Int × Int))), IntKind.i64.wrap (t18__s18_l6 + 1)))
else none)
else
some (.next (d8_l6, IntKind.i64.wrap (t18__s18_l6 + 1))))))
else
some (.done d8_l6))
def planner_Schemes (p0 : List (Int × Int × Int × Int)) : Option ((List (Int × Int × Int × Int)) × Int) :=
((job_Valid p0 0).bind fun x3 =>
(if (x3 != 0) = true then
some ([], x3)
else
((loop (planner_Schemes_L6 p0) (([] : List (Int × Int × Int × Int)), 0)).bind fun d => match d with
| d8_x6 => (if (((d8_x6).length : Int) == 0) = true then
some ([], 15)
else
((slices_SortStableFunc_humpyard_api_Scheme_humpyard_api_Scheme_ d8_x6).bind fun x26 =>
(if x26.length = d8_x6.length then
some (x26, 0)
else none))))))
theorem planner_Schemes_w (a_p0 : Option Addr) (c_p0 : Nat) (p0 : List (Int × Int × Int × Int)) (r : (List (Int × Int × Int × Int)) × Int) (w : World) (M : List Nat) (hms : MS w [M]) (hs_p0 : SlR (eIt4) w (fl [M]) a_p0 c_p0 p0) (h : planner_Schemes p0 = some r) : CallVC Tryz.prog 20 [.slice a_p0 (p0).length c_p0] w fun v w' => ∃ (a0' : Option Addr), ∃ (c0' : Nat), v = .tuple #[.slice a0' (r.1).length c0', Vi r.2] ∧ Ev [] w w' ∧ MS w' [blk a0', M] ∧ FR w.heap.size [blk a0'] ∧ OwnS (eIt4) 48 w' (fl [blk a0', M]) a0' c0' r.1 := by
 refine calls_vc hmx Tryz.func20 (by kernel_rfl) rfl (rs := [.tmp 2, .tmp 3]) rfl (by kernel_rfl) (args := [.slice a_p0 (p0).length c_p0]) rfl ?_
 have hev : Ev [] w w := Ev.refl _ _
 have hfr : FR w.heap.size [] := FR.nil _
 refine c_sp (x_u 2 [(2, .slice none 0 0), (3, Vi 0)] (x_ek (c_seq (c_sp (x_u 1 [(11, .slice a_p0 (p0).length c_p0)] ?_)))))
 refine x_build (vs := [(0, .slice a_p0 (p0).length c_p0)]) (.agg #[.slice a_p0 (p0).length c_p0, Vi 0]) rfl rfl rfl (fun _ _ => by kernel_rfl) ?_
 obtain ⟨x3, hx, h⟩ := bind_some h
 have hcall := job_Valid_w a_p0 c_p0 p0 0 _ w (fl [M]) (MS.fold (P := []) hms) (hs_p0.sub fl1) hx
 refine x_call 46 #[] #[] [.agg #[.slice a_p0 (p0).length c_p0, Vi 0]] _ rfl rfl rfl rfl hcall ?_
 rintro v w4 ⟨rfl, he4⟩
 clear hcall hx
 refine inl1 ?_
 have hst := Stp.ext (ls := [M]) he4
 replace hs_p0 := hs_p0.step hst
 replace hms := hms.ev he4
 replace hev := hev.ext he4
 refine x_u 1 [(4, Vi x3)] (x_ek (c_sp (x_u 2 [(14, Vi x3), (15, .bool (x3 != 0))] (x_ek (c_if (x3 != 0) rfl h (fun h => ?_) (fun h => ?_))))))
 · refine c_sp (x_u 3 [(16, Vi x3), (2, .slice none 0 0), (3, Vi x3)] (x_ek (c_ret (k_then_ret (r_ret (r_vals [.slice none 0 0, Vi x3] ⟨rfl, rfl, trivial⟩ ?_))))))
   obtain rfl := some_inj h
   have hmr := hms.pick [none, some 0] [blk none, M] rfl
   have hfe := hfr.pick [none] [blk none] rfl
   exact ⟨none, 0, rfl, hev, hmr, hfe, OwnS.nil _ _ _ _⟩
 refine c_skip (k_then (c_sp (x_u 1 [(5, .slice none 0 0)] (x_ek (c_seq ?_)))))
 refine c_sp (x_build (vs := [(0, Vi 0), (1, Vi 1), (2, Vi 2), (3, Vi 12)]) (.agg #[Vi 0, Vi 1, Vi 2, Vi 12]) rfl rfl rfl (fun _ _ => by kernel_rfl) ?_)
 refine x_u 1 [(18, Vi 0)] (x_ek (c_block ?_))
 have hst := Stp.push (ls := [M]) (l := blk none) (Ev.refl [] w4) (fun _ h => by cases h) (fun _ h => by cases h)
 replace hs_p0 := hs_p0.step hst
 replace hms := hms.push (l := blk none) (Ev.refl [] _) (fun _ h => by cases h)
 replace hfr := hfr.push (l := blk none) (fun _ h => by cases h)
 have ho7 := OwnS.nil (eIt4) 48 w4 (fl [blk none, M])
 obtain ⟨d6, hd6, h6⟩ := bind_some h
 obtain ⟨m6, hd6⟩ := loop_some hd6
 refine c_loop (loop_rule hmx (σ := Nat × (List (Int × Int × Int × Int)) × Int × Option Addr × Nat) (fun s => match s with | (_, d8_l6, t18__s18_l6, a8_l6, c8_l6) => [(0, .slice a_p0 (p0).length c_p0), (5, .slice a8_l6 (d8_l6).length c8_l6), (17, .agg #[Vi 0, Vi 1, Vi 2, Vi 12]), (18, Vi t18__s18_l6)]) (fun s w' => match s with | (m, d8_l6, t18__s18_l6, a8_l6, c8_l6) => loopN (planner_Schemes_L6 p0) m (d8_l6, t18__s18_l6) = some d6 ∧ Ev [] w w' ∧ MS w' [blk a8_l6, M] ∧ FR w.heap.size [blk a8_l6] ∧ SlR (eIt4) w' (fl [blk a8_l6, M]) a_p0 c_p0 p0 ∧ OwnS (eIt4) 48 w' (fl [blk a8_l6, M]) a8_l6 c8_l6 d8_l6) (fun s => s.1) (m6, ([] : List (Int × Int × Int × Int)), 0, none, 0) ⟨rfl, rfl, rfl, rfl, trivial⟩ ⟨hd6, hev, hms, hfr, hs_p0, ho7⟩ ?_)
 rintro ⟨m6, d8_l6, t18__s18_l6, a8_l6, c8_l6⟩ J wl6 ⟨hn6, hev, hms, hfr, hs_p0, hj8_l6⟩
 rcases m6 with _ | m6
 · exact (loopN_zero hn6).elim
 obtain ⟨t6, h, hn6⟩ := bind_some hn6
 refine c_sp (x_u 1 [(19, .bool (decide (t18__s18_l6 < 4)))] (x_ek (c_nm [(0, .slice a_p0 (p0).length c_p0), (5, .slice a8_l6 (d8_l6).length c8_l6), (17, .agg #[Vi 0, Vi 1, Vi 2, Vi 12]), (18, Vi t18__s18_l6), (19, .bool (decide (t18__s18_l6 < 4)))] (fun J => ?_))))
 refine c_seq (c_if (decide (t18__s18_l6 < 4)) rfl h (fun h => ?_) (fun h => ?_))
 · refine c_skip (k_then (c_seq (c_block (c_sp ?_))))
   obtain ⟨x12, hx12, h⟩ := bind_some h
   refine x_index (xv := .agg #[Vi 0, Vi 1, Vi 2, Vi 12]) (yv := Vi t18__s18_l6) (Vi x12) rfl rfl rfl rfl (reads_aindex Tryz.underlying97 tcell3 (xs := ([0, 1, 2, 12] : List Int)) rfl rfl hx12) (x_u 1 [(7, Vi x12)] (x_ek (c_sp (x_u 2 [(22, .slice a_p0 (p0).length c_p0), (23, Vi x12)] ?_))))
   obtain ⟨x13, hx, h⟩ := bind_some h
   have hcall := planner_scheme_w a_p0 c_p0 p0 x12 _ wl6 (fl [blk a8_l6, M]) (MS.fold (P := []) hms) (hs_p0.sub fl1) hx
   refine x_call 47 #[] #[] [.slice a_p0 (p0).length c_p0, Vi x12] _ rfl rfl rfl rfl hcall ?_
   rintro v w14 ⟨a0_14, c0_14, rfl, he14, hmn14, hfn14, hf14_1⟩
   clear hcall hx
   refine inl1 ?_
   have hst := Stp.call0 [blk a8_l6, M] [blk a0_14] [blk a0_14, blk a8_l6, M] he14 hfn14 rfl
   replace hs_p0 := hs_p0.step hst
   replace hj8_l6 := hj8_l6.step hst he14 nn2
   replace hms := MS.call0 [blk a0_14] [blk a0_14, blk a8_l6, M] hms he14 hmn14 hfn14 rfl
   have hfr2 := FR.call0 [blk a0_14, blk a8_l6] hev.size hfn14 hfr rfl
   replace hev := hev.ext he14
   replace hfr := hfr2
   clear hfr2
   clear hst
   refine x_u 4 [(21, .tuple #[.agg #[Vi x13.1.1, Vi x13.1.2.1, Vi x13.1.2.2.1, Vi x13.1.2.2.2], .agg #[Vi x13.2.1.1, .slice a0_14 (x13.2.1.2).length c0_14], .bool x13.2.2]), (25, .agg #[Vi x13.1.1, Vi x13.1.2.1, Vi x13.1.2.2.1, Vi x13.1.2.2.2]), (26, .agg #[Vi x13.2.1.1, .slice a0_14 (x13.2.1.2).length c0_14]), (27, .bool x13.2.2)] (x_alloc (z := .agg #[Vi 0, Vi 0, Vi 0, Vi 0]) rfl rfl (by kernel_rfl) (fun b16 w16 hq16 hb16 he16 hz16 => ?_))
   replace hb16 : w16.heap[b16]? = some (.cells #[Vi 0, Vi 0, Vi 0, Vi 0] 48 (0, 0)) := hb16
   refine inl1 ?_
   have hst := Stp.box (ls := [blk a0_14, blk a8_l6, M]) he16 hq16
   replace hs_p0 := hs_p0.step hst
   replace hj8_l6 := hj8_l6.step hst he16 nn2
   replace hms := hms.box he16 hq16 hb16
   replace hfr := hfr.box hev.size hq16
   replace hev := hev.ext he16
   refine x_alloc (z := .agg #[Vi 0, .slice none 0 0]) rfl rfl (by kernel_rfl) (fun b18 w18 hq18 hb18 he18 hz18 => ?_)
   replace hb18 : w18.heap[b18]? = some (.cells #[Vi 0, .slice none 0 0] 52 (0, 0)) := hb18
   refine inl1 ?_
   have hst := Stp.box (ls := [[b16], blk a0_14, blk a8_l6, M]) he18 hq18
   replace hs_p0 := hs_p0.step hst
   replace hj8_l6 := hj8_l6.step hst he18 nn2
   replace hb16 := he18.box hb16 nn
   replace hms := hms.box he18 hq18 hb18
   replace hfr := hfr.box hev.size hq18
   replace hev := hev.ext he18
   obtain ⟨w20, hr20, hb20, he20⟩ := store_boxagg 0 [Vi x13.1.1, Vi x13.1.2.1, Vi x13.1.2.2.1, Vi x13.1.2.2.2] #[Vi x13.1.1, Vi x13.1.2.1, Vi x13.1.2.2.1, Vi x13.1.2.2.2] tagg48 hb16 rfl rfl rfl
   refine x_store w20 (xv := Vp b16 0) (yv := .agg #[Vi x13.1.1, Vi x13.1.2.1, Vi x13.1.2.2.1, Vi x13.1.2.2.2]) rfl rfl rfl rfl hr20 (inl1 ?_)
   have hst := Stp.ev' (ls := [[b18], [b16], blk a0_14, blk a8_l6, M]) he20 (mem_flat 1 rfl)
   replace hs_p0 := hs_p0.step hst
   replace hj8_l6 := hj8_l6.step hst he20 (hms.apart 3 1 rfl rfl rfl)
   replace hb18 := he20.box hb18 (hms.apart 0 1 rfl rfl rfl _ mem1)
   replace hms := hms.ev he20
   replace hev := hev.then he20 (fun b hb => .inr (hfr.at 1 rfl b hb))
   replace hb16 := hb20
   obtain ⟨w21, hr21, hb21, he21⟩ := store_boxagg 0 [Vi x13.2.1.1, .slice a0_14 (x13.2.1.2).length c0_14] #[Vi x13.2.1.1, .slice a0_14 (x13.2.1.2).length c0_14] tagg52 hb18 rfl rfl rfl
   refine x_store w21 (xv := Vp b18 0) (yv := .agg #[Vi x13.2.1.1, .slice a0_14 (x13.2.1.2).length c0_14]) rfl rfl rfl rfl hr21 (inl1 ?_)
   have hst := Stp.ev' (ls := [[b18], [b16], blk a0_14, blk a8_l6, M]) he21 (mem_flat 0 rfl)
   replace hs_p0 := hs_p0.step hst
   replace hj8_l6 := hj8_l6.step hst he21 (hms.apart 3 0 rfl rfl rfl)
   replace hb16 := he21.box hb16 (hms.apart 1 0 rfl rfl rfl _ mem1)
   replace hms := hms.ev he21
   replace hev := hev.then he21 (fun b hb => .inr (hfr.at 0 rfl b hb))
   refine x_u 1 [(10, .bool x13.2.2)] (x_ek (c_sp (x_u 1 [(28, .bool x13.2.2)] (x_ek (c_nm [(0, .slice a_p0 (p0).length c_p0), (5, .slice a8_l6 (d8_l6).length c8_l6), (8, Vp b16 0), (17, .agg #[Vi 0, Vi 1, Vi 2, Vi 12]), (18, Vi t18__s18_l6), (28, .bool x13.2.2)] (fun J => ?_))))))
   refine c_if x13.2.2 rfl h (fun h => ?_) (fun h => ?_)
   · refine c_plain (x_u 1 [(29, .slice a8_l6 (d8_l6).length c8_l6)] (x_load (xv := Vp b16 0) (.agg #[Vi x13.1.1, Vi x13.1.2.1, Vi x13.1.2.2.1, Vi x13.1.2.2.2]) rfl rfl rfl (reads_boxagg 0 [Vi x13.1.1, Vi x13.1.2.1, Vi x13.1.2.2.1, Vi x13.1.2.2.2] tagg48 hb16 nn rfl) (x_buildSlice (vs := [(0, .agg #[Vi x13.1.1, Vi x13.1.2.1, Vi x13.1.2.2.1, Vi x13.1.2.2.2])]) #[Vi x13.1.1, Vi x13.1.2.1, Vi x13.1.2.2.1, Vi x13.1.2.2.2] 48 rfl rfl rfl (by kernel_rfl) (fun b22 w22 hq22 hb22 he22 hz22 => ?_))))
     refine inl1 ?_
     have hms0 := hms
     have hst := Stp.ext (ls := [[b18], [b16], blk a0_14, blk a8_l6, M]) he22
     replace hs_p0 := hs_p0.step hst
     replace hj8_l6 := hj8_l6.step hst he22 nn2
     replace hms := hms.ev he22
     replace hev := hev.ext he22
     have hs22 : SlR (eIt4) w22 (fl [[b18], [b16], blk a0_14, blk a8_l6, M]) (Ad b22 0) 1 ([(x13.1.1, x13.1.2.1, x13.1.2.2.1, x13.1.2.2.2)] : List (Int × Int × Int × Int)) := ro_of_box hms0 hq22 hb22 rfl rfl (cells_at (cs := [Vi x13.1.1, Vi x13.1.2.1, Vi x13.1.2.2.1, Vi x13.1.2.2.2]) (CellsOf.cons (c := [Vi x13.1.1, Vi x13.1.2.1, Vi x13.1.2.2.1, Vi x13.1.2.2.2]) ⟨[Vi x13.1.1], [Vi x13.1.2.1, Vi x13.1.2.2.1, Vi x13.1.2.2.2], rfl, rfl, ⟨[Vi x13.1.2.1], [Vi x13.1.2.2.1, Vi x13.1.2.2.2], rfl, rfl, ⟨[Vi x13.1.2.2.1], [Vi x13.1.2.2.2], rfl, rfl, rfl⟩⟩⟩ CellsOf.nil))
     clear hb22 hms0
     have hg := guard_l h
     replace h := guard_r h
     obtain ⟨a24, c24, w24, hr24, he24, hn24, hm24, hw24⟩ := own_appendN tel44 44 hj8_l6 (mem_flat 3 rfl) hs22 hg
     refine x_builtin (vs := [.slice a8_l6 (d8_l6).length c8_l6, .slice (Ad b22 0) (([(x13.1.1, x13.1.2.1, x13.1.2.2.1, x13.1.2.2.2)] : List (Int × Int × Int × Int))).length 1]) _ w24 rfl rfl rfl rfl (run_value _ _ _ _ hr24) (inl1 ?_)
     have hst : Stp (fl [[b18], [b16], blk a0_14, blk a8_l6, M]) w22 (fl [[b18], [b16], blk a0_14, blk a24, M]) w24 := Stp.upd 3 he24 rfl (fun b hb => (hn24 b hb).1)
     replace hs_p0 := hs_p0.step hst
     replace hms : MS w24 [[b18], [b16], blk a0_14, blk a24, M] := hms.upd 3 he24 rfl hn24
     have hfr2 : FR w.heap.size [[b18], [b16], blk a0_14, blk a24] := hfr.upd 3 rfl hev.size (fun b hb => (hn24 b hb).1)
     replace hev := hev.then he24 (fun b hb => .inr (hfr.at 3 rfl b hb))
     replace hfr := hfr2
     clear hfr2
     replace hj8_l6 := hw24 (fl [[b18], [b16], blk a0_14, blk a24, M]) hst.new
     clear hw24
     refine x_u 1 [(5, .slice a24 ((d8_l6 ++ ([(x13.1.1, x13.1.2.1, x13.1.2.2.1, x13.1.2.2.2)] : List (Int × Int × Int × Int)))).length c24)] (x_end rfl (k_block (k_then (c_plain (x_u 2 [(33, Vi (IntKind.i64.wrap (t18__s18_l6 + 1))), (18, Vi (IntKind.i64.wrap (t18__s18_l6 + 1)))] ?_)))))
     refine x_end rfl ?_
     obtain rfl := some_inj h
     have hpk := hms.pick [some 3, some 4] [blk a24, M] rfl
     have hsu := pick_sub (ls := [[b18], [b16], blk a0_14, blk a24, M]) [some 3, some 4] [blk a24, M] rfl
     replace hs_p0 := hs_p0.sub hsu
     replace hj8_l6 := hj8_l6.sub hsu
     replace hms := hpk
     replace hfr := hfr.pick [some 3] [blk a24] rfl
     clear hpk hsu
     exact k_then ⟨(m6, (d8_l6 ++ ([(x13.1.1, x13.1.2.1, x13.1.2.2.1, x13.1.2.2.2)] : List (Int × Int × Int × Int))), IntKind.i64.wrap (t18__s18_l6 + 1), a24, c24), ⟨rfl, rfl, rfl, rfl, trivial⟩, ⟨hn6, hev, hms, hfr, hs_p0, hj8_l6⟩, Nat.lt_succ_self _⟩
   refine c_skip (k_block (k_then (c_plain (x_u 2 [(33, Vi (IntKind.i64.wrap (t18__s18_l6 + 1))), (18, Vi (IntKind.i64.wrap (t18__s18_l6 + 1)))] (x_end rfl ?_)))))
   obtain rfl := some_inj h
   have hpk := hms.pick [some 3, some 4] [blk a8_l6, M] rfl
   have hsu := pick_sub (ls := [[b18], [b16], blk a0_14, blk a8_l6, M]) [some 3, some 4] [blk a8_l6, M] rfl
   replace hs_p0 := hs_p0.sub hsu
   replace hj8_l6 := hj8_l6.sub hsu
   replace hms := hpk
   replace hfr := hfr.pick [some 3] [blk a8_l6] rfl
   clear hpk hsu
   exact k_then ⟨(m6, d8_l6, IntKind.i64.wrap (t18__s18_l6 + 1), a8_l6, c8_l6), ⟨rfl, rfl, rfl, rfl, trivial⟩, ⟨hn6, hev, hms, hfr, hs_p0, hj8_l6⟩, Nat.lt_succ_self _⟩
 refine c_exit (k_then_exit ?_)
 obtain rfl := some_inj h
 have hy := some_inj hn6
 subst hy
 replace h := h6
 refine k_then_exit (k_block_in (k_then (c_nm [(5, .slice a8_l6 (d8_l6).length c8_l6)] (fun J => ?_))))
 refine c_seq (c_sp (x_u 1 [(34, .slice a8_l6 (d8_l6).length c8_l6)] (x_len (vs := [.slice a8_l6 (d8_l6).length c8_l6]) (Vi ((d8_l6).length : Int)) rfl rfl rfl (reads_len tsl44 _ _ _ _ _) (x_u 1 [(36, .bool (((d8_l6).length : Int) == 0))] (x_ek ?_)))))
 refine c_if (((d8_l6).length : Int) == 0) rfl h (fun h => ?_) (fun h => ?_)
 · refine c_sp (x_u 2 [(2, .slice none 0 0), (3, Vi 15)] (x_ek (c_ret (k_then_ret (r_ret (r_vals [.slice none 0 0, Vi 15] ⟨rfl, rfl, trivial⟩ ?_))))))
   obtain rfl := some_inj h
   have hmr := hms.pick [none, some 1] [blk none, M] rfl
   have hfe := hfr.pick [none] [blk none] rfl
   exact ⟨none, 0, rfl, hev, hmr, hfe, OwnS.nil _ _ _ _⟩
 refine c_skip (k_then (c_sp (x_u 1 [(37, .slice a8_l6 (d8_l6).length c8_l6)] ?_)))
 obtain ⟨x26, hx, h⟩ := bind_some h
 have hpk : MS wl6 ([blk a8_l6] ++ [M]) := hms.pick [some 0, some 1] _ rfl
 have hsb0 : ∀ x ∈ fl ([blk a8_l6] ++ [M]), x ∈ fl [blk a8_l6, M] := pick_sub [some 0, some 1] _ rfl
 have hsb : ∀ x ∈ fl ([blk a8_l6] ++ [(fl [M])]), x ∈ fl [blk a8_l6, M] := fun x hx => hsb0 x (fl_unfold x hx)
 have hcall := slices_SortStableFunc_humpyard_api_Scheme_humpyard_api_Scheme__w a8_l6 c8_l6 d8_l6 _ wl6 (fl [M]) (hpk.fold (P := [blk a8_l6])) (hj8_l6.sub hsb) hx
 refine x_call 48 #[] #[] [.slice a8_l6 (d8_l6).length c8_l6, (.func (.func 49) #[] #[])] _ rfl rfl rfl rfl hcall ?_
 rintro v w27 ⟨rfl, he27, hp27_0, hmn27, hfn27, hnp27⟩
 clear hcall hx
 refine inl1 ?_
 have hpk2 : MS wl6 ([blk a8_l6] ++ [M]) := hms.pick [some 0, some 1] _ rfl
 replace hms : MS w27 [blk a8_l6, M] := (MS.call (P := [blk a8_l6]) (R := [M]) (res := []) (par := [blk a8_l6]) hpk2 he27 hmn27 hfn27 hnp27).pick [some 0, some 1] _ rfl
 have hPf : ∀ b ∈ fl [blk a8_l6], w.heap.size ≤ b := FR.mem (ls := [blk a8_l6]) (hfr.pick [some 0] _ rfl)
 have hfr2 : FR w.heap.size [blk a8_l6] := (FR.cons (fun b hb => (hnp27.at 0 rfl b hb).elim (fun h => hPf b h) (fun h => Nat.le_trans hev.size h)) (FR.nil _))
 replace hev := hev.then he27 (fun b hb => .inr (hPf b hb))
 replace hfr := hfr2
 clear hfr2
 replace hj8_l6 := OwnS.plain (M' := fl [blk a8_l6, M]) (plain_prod (plain_int _) (plain_prod (plain_int _) (plain_prod (plain_int _) (plain_int _)))) hp27_0
 clear hpk hsb hsb0 hpk2 hst
 have hgl := guard_l h
 replace h := guard_r h
 have hsl : (Value.slice a8_l6 (d8_l6).length c8_l6) = (Value.slice a8_l6 (x26).length c8_l6) := by first | (rw [hgl]; done) | simp only [hgl]
 try rw [hsl]
 clear hsl
 refine x_ek (c_sp (x_u 3 [(39, .slice a8_l6 (x26).length c8_l6), (2, .slice a8_l6 (x26).length c8_l6), (3, Vi 0)] (x_ek (c_ret (r_ret (r_vals [.slice a8_l6 (x26).length c8_l6, Vi 0] ⟨rfl, rfl, trivial⟩ ?_))))))
 obtain rfl := some_inj h
 have hmr := hms.pick [some 0, some 1] [blk a8_l6, M] rfl
 have hsu := pick_sub (ls := [blk a8_l6, M]) [some 0, some 1] [blk a8_l6, M] rfl
 have hfe := hfr.pick [some 0] [blk a8_l6] rfl
 exact ⟨a8_l6, c8_l6, rfl, hev, hmr, hfe, hj8_l6.sub hsu⟩
def planner_sheet (p0 : List (Int × Int × Int × Int)) (p1 : Int) (p2 : List Int) : Option ((((List (Int × Int × Int × Int)) × Int) × ((Int × (List Int)) × (List Int)) × (List Int)) × (List Int) × Int) :=
((slices_Clone_humpyard_api_Item_humpyard_api_Item_ p0).bind fun x5 =>
((certificate_Make x5 p1).bind fun x11 =>
(if (x11.2 != 0) = true then
some ((([], 0), ((0, []), []), []), [], x11.2)
else
((rollin_Loads x5 p1 x11.1.1.1 x11.1.1.2).bind fun x20 =>
(if (x20.2 != 0) = true then
some ((([], 0), ((0, []), []), []), [], x20.2)
else
((assign_Match x20.1 p2).bind fun x25 =>
(if (x25.2.2 != 0) = true then
some ((([], 0), ((0, []), []), []), x25.2.1, x25.2.2)
else
some (((x5, p1), ((x11.1.1.1, x11.1.1.2), x11.1.2), x25.1), [], 0))))))))
theorem planner_sheet_w (a_p0 : Option Addr) (c_p0 : Nat) (p0 : List (Int × Int × Int × Int)) (p1 : Int) (a_p2 : Option Addr) (c_p2 : Nat) (p2 : List Int) (r : (((List (Int × Int × Int × Int)) × Int) × ((Int × (List Int)) × (List Int)) × (List Int)) × (List Int) × Int) (w : World) (M : List Nat) (hms : MS w [M]) (hs_p0 : SlR (eIt4) w (fl [M]) a_p0 c_p0 p0) (hs_p2 : SlR (eInt .i64) w (fl [M]) a_p2 c_p2 p2) (h : planner_sheet p0 p1 p2 = some r) : CallVC Tryz.prog 55 [Vl a_p0 p0 c_p0, Vi p1, Vl a_p2 p2 c_p2] w fun v w' => ∃ (a0' : Option Addr), ∃ (c0' : Nat), ∃ (a2' : Option Addr), ∃ (c2' : Nat), ∃ (a4' : Option Addr), ∃ (c4' : Nat), ∃ (a6' : Option Addr), ∃ (c6' : Nat), ∃ (a8' : Option Addr), ∃ (c8' : Nat), v = .tuple #[.agg #[Vl a0' r.1.1.1 c0', Vi r.1.1.2, Vi r.1.2.1.1.1, Vl a2' r.1.2.1.1.2 c2', Vl a4' r.1.2.1.2 c4', Vl a6' r.1.2.2 c6'], Vl a8' r.2.1 c8', Vi r.2.2] ∧ Ev [] w w' ∧ MS w' [blk a0', blk a2', blk a4', blk a6', blk a8', M] ∧ FR w.heap.size [blk a0', blk a2', blk a4', blk a6', blk a8'] ∧ OwnS (eIt4) 76 w' (fl [blk a0', blk a2', blk a4', blk a6', blk a8', M]) a0' c0' r.1.1.1 ∧ OwnS (eInt .i64) 3 w' (fl [blk a0', blk a2', blk a4', blk a6', blk a8', M]) a2' c2' r.1.2.1.1.2 ∧ OwnS (eInt .i64) 3 w' (fl [blk a0', blk a2', blk a4', blk a6', blk a8', M]) a4' c4' r.1.2.1.2 ∧ OwnS (eInt .i64) 3 w' (fl [blk a0', blk a2', blk a4', blk a6', blk a8', M]) a6' c6' r.1.2.2 ∧ OwnS (eInt .i64) 3 w' (fl [blk a0', blk a2', blk a4', blk a6', blk a8', M]) a8' c8' r.2.1 := by
 refine calls_vc hmx Tryz.func55 (by kernel_rfl) rfl (rs := [.cell 6 67, .tmp 7, .tmp 8]) rfl (by kernel_rfl) (args := [Vl a_p0 p0 c_p0, Vi p1, Vl a_p2 p2 c_p2]) rfl ?_
 have hev : Ev [] w w := Ev.refl _ _
 have hfr : FR w.heap.size [] := FR.nil _
 refine c_sp (x_alloc (z := .agg #[.slice none 0 0, Vi 0, Vi 0, .slice none 0 0, .slice none 0 0, .slice none 0 0]) rfl rfl (by kernel_rfl) (fun b3 w3 hq3 hb3 he3 hz3 => ?_))
 replace hb3 : w3.heap[b3]? = some (.cells #[.slice none 0 0, Vi 0, Vi 0, .slice none 0 0, .slice none 0 0, .slice none 0 0] 67 (0, 0)) := hb3
 refine inl1 ?_
 have hst := Stp.box (ls := [M]) he3 hq3
 replace hs_p0 := hs_p0.step hst
 replace hs_p2 := hs_p2.step hst
 replace hms := hms.box he3 hq3 hb3
 replace hfr := hfr.box hev.size hq3
 replace hev := hev.ext he3
 refine x_u 2 [(7, .slice none 0 0), (8, Vi 0)] (x_ek (c_sp (x_u 1 [(15, Vl a_p0 p0 c_p0)] ?_)))
 obtain ⟨x5, hx, h⟩ := bind_some h
 have hcall := slices_Clone_humpyard_api_Item_humpyard_api_Item__w a_p0 c_p0 p0 _ w3 (fl [[b3], M]) (MS.fold (P := []) hms) (hs_p0.sub fl1) hx
 refine x_call 87 #[] #[] [Vl a_p0 p0 c_p0] _ rfl rfl rfl rfl hcall ?_
 rintro v w6 ⟨a0_6, c0_6, rfl, he6, hmn6, hfn6, hf6_1⟩
 clear hcall hx
 refine inl1 ?_
 have hst := Stp.call0 [[b3], M] [blk a0_6] [blk a0_6, [b3], M] he6 hfn6 rfl
 replace hs_p2 := hs_p2.step hst
 replace hb3 := he6.box hb3 nn
 replace hms := MS.call0 [blk a0_6] [blk a0_6, [b3], M] hms he6 hmn6 hfn6 rfl
 have hfr2 := FR.call0 [blk a0_6, [b3]] hev.size hfn6 hfr rfl
 replace hev := hev.ext he6
 replace hfr := hfr2
 clear hfr2
 replace hf6_1 := OwnS.plain (M' := fl [blk a0_6, [b3], M]) (plain_prod (plain_int _) (plain_prod (plain_int _) (plain_prod (plain_int _) (plain_int _)))) hf6_1
 clear hst
 refine x_u 1 [(17, Vi p1)] (x_build (vs := [(0, Vl a0_6 x5 c0_6), (1, Vi p1)]) (.agg #[Vl a0_6 x5 c0_6, Vi p1]) rfl rfl rfl (fun _ _ => by kernel_rfl) ?_)
 refine x_alloc (z := .agg #[.slice none 0 0, Vi 0]) rfl rfl (by kernel_rfl) (fun b8 w8 hq8 hb8 he8 hz8 => ?_)
 replace hb8 : w8.heap[b8]? = some (.cells #[.slice none 0 0, Vi 0] 50 (0, 0)) := hb8
 refine inl1 ?_
 have hst := Stp.box (ls := [blk a0_6, [b3], M]) he8 hq8
 replace hs_p2 := hs_p2.step hst
 replace hb3 := he8.box hb3 nn
 replace hf6_1 := hf6_1.step hst he8 nn2
 replace hms := hms.box he8 hq8 hb8
 replace hfr := hfr.box hev.size hq8
 replace hev := hev.ext he8
 obtain ⟨w10, hr10, hb10, he10⟩ := store_boxagg 0 [Vl a0_6 x5 c0_6, Vi p1] #[Vl a0_6 x5 c0_6, Vi p1] tagg50 hb8 rfl rfl rfl
 refine x_store w10 (xv := Vp b8 0) (yv := .agg #[Vl a0_6 x5 c0_6, Vi p1]) rfl rfl rfl rfl hr10 (inl1 ?_)
 have hst := Stp.ev' (ls := [[b8], blk a0_6, [b3], M]) he10 (mem_flat 0 rfl)
 replace hs_p2 := hs_p2.step hst
 replace hb3 := he10.box hb3 (hms.apart 2 0 rfl rfl rfl _ mem1)
 replace hf6_1 := hf6_1.step hst he10 (hms.apart 1 0 rfl rfl rfl)
 replace hms := hms.ev he10
 replace hev := hev.then he10 (fun b hb => .inr (hfr.at 0 rfl b hb))
 replace hb8 := hb10
 refine x_ek (c_sp (x_load (xv := Vp b8 0) (.agg #[Vl a0_6 x5 c0_6, Vi p1]) rfl rfl rfl (reads_boxagg 0 [Vl a0_6 x5 c0_6, Vi p1] tagg50 hb8 nn rfl) ?_))
 obtain ⟨x11, hx, h⟩ := bind_some h
 have hpk := hms.pick [some 0, some 2, some 3] ([] ++ [[b8], [b3], M]) rfl
 have hsb := sub_fold (ls := [[b8], blk a0_6, [b3], M]) [some 0, some 2, some 3] [[b8], [b3], M] rfl
 have hcall := certificate_Make_w a0_6 c0_6 x5 p1 _ w10 (fl [[b8], [b3], M]) (MS.fold (P := []) hpk) (hf6_1.ro hsb (pick_outf hms 1 rfl [some 0, some 2, some 3] [[b8], [b3], M] rfl rfl)) hx
 refine x_call 21 #[] #[] [.agg #[Vl a0_6 x5 c0_6, Vi p1]] _ rfl rfl rfl rfl hcall ?_
 rintro v w12 ⟨a0_12, c0_12, a2_12, c2_12, rfl, he12, hmn12, hfn12, hf12_1, hf12_2⟩
 clear hcall hx
 refine inl1 ?_
 have hst := Stp.call0 [[b8], blk a0_6, [b3], M] [blk a0_12, blk a2_12] [blk a0_12, blk a2_12, [b8], blk a0_6, [b3], M] he12 hfn12 rfl
 replace hs_p2 := hs_p2.step hst
 replace hb3 := he12.box hb3 nn
 replace hf6_1 := hf6_1.step hst he12 nn2
 replace hb8 := he12.box hb8 nn
 replace hms := MS.call0 [blk a0_12, blk a2_12] [blk a0_12, blk a2_12, [b8], blk a0_6, [b3], M] hms he12 hmn12 hfn12 rfl
 have hfr2 := FR.call0 [blk a0_12, blk a2_12, [b8], blk a0_6, [b3]] hev.size hfn12 hfr rfl
 replace hev := hev.ext he12
 replace hfr := hfr2
 clear hfr2
 replace hf12_1 := OwnS.plain (M' := fl [blk a0_12, blk a2_12, [b8], blk a0_6, [b3], M]) (plain_int _) hf12_1
 replace hf12_2 := OwnS.plain (M' := fl [blk a0_12, blk a2_12, [b8], blk a0_6, [b3], M]) (plain_int _) hf12_2
 clear hpk hsb hst
 refine x_u 3 [(19, .tuple #[.agg #[Vi x11.1.1.1, Vl a0_12 x11.1.1.2 c0_12, Vl a2_12 x11.1.2 c2_12], Vi x11.2]), (22, .agg #[Vi x11.1.1.1, Vl a0_12 x11.1.1.2 c0_12, Vl a2_12 x11.1.2 c2_12]), (23, Vi x11.2)] (x_alloc (z := .agg #[Vi 0, .slice none 0 0, .slice none 0 0]) rfl rfl (by kernel_rfl) (fun b15 w15 hq15 hb15 he15 hz15 => ?_))
 replace hb15 : w15.heap[b15]? = some (.cells #[Vi 0, .slice none 0 0, .slice none 0 0] 54 (0, 0)) := hb15
 refine inl1 ?_
 have hst := Stp.box (ls := [blk a0_12, blk a2_12, [b8], blk a0_6, [b3], M]) he15 hq15
 replace hs_p2 := hs_p2.step hst
 replace hb3 := he15.box hb3 nn
 replace hf6_1 := hf6_1.step hst he15 nn2
 replace hb8 := he15.box hb8 nn
 replace hf12_1 := hf12_1.step hst he15 nn2
 replace hf12_2 := hf12_2.step hst he15 nn2
 replace hms := hms.box he15 hq15 hb15
 replace hfr := hfr.box hev.size hq15
 replace hev := hev.ext he15
 obtain ⟨w17, hr17, hb17, he17⟩ := store_boxagg 0 [Vi x11.1.1.1, Vl a0_12 x11.1.1.2 c0_12, Vl a2_12 x11.1.2 c2_12] #[Vi x11.1.1.1, Vl a0_12 x11.1.1.2 c0_12, Vl a2_12 x11.1.2 c2_12] tagg54 hb15 rfl rfl rfl
 refine x_store w17 (xv := Vp b15 0) (yv := .agg #[Vi x11.1.1.1, Vl a0_12 x11.1.1.2 c0_12, Vl a2_12 x11.1.2 c2_12]) rfl rfl rfl rfl hr17 (inl1 ?_)
 have hst := Stp.ev' (ls := [[b15], blk a0_12, blk a2_12, [b8], blk a0_6, [b3], M]) he17 (mem_flat 0 rfl)
 replace hs_p2 := hs_p2.step hst
 replace hb3 := he17.box hb3 (hms.apart 5 0 rfl rfl rfl _ mem1)
 replace hf6_1 := hf6_1.step hst he17 (hms.apart 4 0 rfl rfl rfl)
 replace hb8 := he17.box hb8 (hms.apart 3 0 rfl rfl rfl _ mem1)
 replace hf12_1 := hf12_1.step hst he17 (hms.apart 1 0 rfl rfl rfl)
 replace hf12_2 := hf12_2.step hst he17 (hms.apart 2 0 rfl rfl rfl)
 replace hms := hms.ev he17
 replace hev := hev.then he17 (fun b hb => .inr (hfr.at 0 rfl b hb))
 replace hb15 := hb17
 refine x_u 1 [(11, Vi x11.2)] (x_ek (c_nm [(2, Vl a_p2 p2 c_p2), (6, Vp b3 0), (9, Vp b8 0), (10, Vp b15 0), (11, Vi x11.2)] (fun J => ?_)))
 refine c_seq (c_sp (x_u 2 [(24, Vi x11.2), (25, .bool (x11.2 != 0))] (x_ek (c_if (x11.2 != 0) rfl h (fun h => ?_) (fun h => ?_)))))
 · refine c_sp (x_build (vs := []) (.agg #[.slice none 0 0, Vi 0, Vi 0, .slice none 0 0, .slice none 0 0, .slice none 0 0]) rfl rfl rfl (fun _ _ => by kernel_rfl) ?_)
   refine x_u 1 [(27, Vi x11.2)] ?_
   obtain ⟨w19, hr19, hb19, he19⟩ := store_boxagg 0 [.slice none 0 0, Vi 0, Vi 0, .slice none 0 0, .slice none 0 0, .slice none 0 0] #[.slice none 0 0, Vi 0, Vi 0, .slice none 0 0, .slice none 0 0, .slice none 0 0] tagg67 hb3 rfl rfl rfl
   refine x_store w19 (xv := Vp b3 0) (yv := .agg #[.slice none 0 0, Vi 0, Vi 0, .slice none 0 0, .slice none 0 0, .slice none 0 0]) rfl rfl rfl rfl hr19 (inl1 ?_)
   replace hms := hms.ev he19
   replace hev := hev.then he19 (fun b hb => .inr (hfr.at 5 rfl b hb))
   replace hb3 := hb19
   refine x_u 2 [(7, .slice none 0 0), (8, Vi x11.2)] (x_ek (c_ret (k_then_ret (r_ret (r_vals [.agg #[.slice none 0 0, Vi 0, Vi 0, .slice none 0 0, .slice none 0 0, .slice none 0 0], .slice none 0 0, Vi x11.2] ⟨⟨_, rfl, loadVar_of_reads (reads_boxagg (Mo := []) 0 [.slice none 0 0, Vi 0, Vi 0, .slice none 0 0, .slice none 0 0, .slice none 0 0] tagg67 hb3 nn rfl)⟩, rfl, rfl, trivial⟩ ?_)))))
   obtain rfl := some_inj h
   have hmr := hms.pick [none, none, none, none, none, some 6] [blk none, blk none, blk none, blk none, blk none, M] rfl
   have hfe := hfr.pick [none, none, none, none, none] [blk none, blk none, blk none, blk none, blk none] rfl
   exact ⟨none, 0, none, 0, none, 0, none, 0, none, 0, rfl, hev, hmr, hfe, OwnS.nil _ _ _ _, OwnS.nil _ _ _ _, OwnS.nil _ _ _ _, OwnS.nil _ _ _ _, OwnS.nil _ _ _ _⟩
 refine c_skip (k_then (c_sp (x_load (xv := Vp b8 0) (.agg #[Vl a0_6 x5 c0_6, Vi p1]) rfl rfl rfl (reads_boxagg 0 [Vl a0_6 x5 c0_6, Vi p1] tagg50 hb8 nn rfl) (x_fieldAddr (xv := Vp b15 0) (Vp b15 0) rfl rfl rfl (reads_field tfld54_0 _ _) (x_load (xv := Vp b15 0) (.agg #[Vi x11.1.1.1, Vl a0_12 x11.1.1.2 c0_12]) rfl rfl rfl (reads_boxagg 0 [Vi x11.1.1.1, Vl a0_12 x11.1.1.2 c0_12] tagg52 hb15 nn rfl) ?_)))))
 obtain ⟨x20, hx, h⟩ := bind_some h
 have hpk := hms.pick [some 0, some 2, some 3, some 5, some 6] ([] ++ [[b15], blk a2_12, [b8], [b3], M]) rfl
 have hsb := sub_fold (ls := [[b15], blk a0_12, blk a2_12, [b8], blk a0_6, [b3], M]) [some 0, some 2, some 3, some 5, some 6] [[b15], blk a2_12, [b8], [b3], M] rfl
 have hcall := rollin_Loads_w a0_6 c0_6 x5 p1 x11.1.1.1 a0_12 c0_12 x11.1.1.2 _ w17 (fl [[b15], blk a2_12, [b8], [b3], M]) (MS.fold (P := []) hpk) (hf6_1.ro hsb (pick_outf hms 4 rfl [some 0, some 2, some 3, some 5, some 6] [[b15], blk a2_12, [b8], [b3], M] rfl rfl)) (hf12_1.ro hsb (pick_outf hms 1 rfl [some 0, some 2, some 3, some 5, some 6] [[b15], blk a2_12, [b8], [b3], M] rfl rfl)) hx
 refine x_call 39 #[] #[] [.agg #[Vl a0_6 x5 c0_6, Vi p1], .agg #[Vi x11.1.1.1, Vl a0_12 x11.1.1.2 c0_12]] _ rfl rfl rfl rfl hcall ?_
 rintro v w21 ⟨a0_21, c0_21, rfl, he21, hmn21, hfn21, hf21_1⟩
 clear hcall hx
 refine inl1 ?_
 have hst := Stp.call0 [[b15], blk a0_12, blk a2_12, [b8], blk a0_6, [b3], M] [blk a0_21] [blk a0_21, [b15], blk a0_12, blk a2_12, [b8], blk a0_6, [b3], M] he21 hfn21 rfl
 replace hs_p2 := hs_p2.step hst
 replace hb3 := he21.box hb3 nn
 replace hf6_1 := hf6_1.step hst he21 nn2
 replace hb8 := he21.box hb8 nn
 replace hf12_1 := hf12_1.step hst he21 nn2
 replace hf12_2 := hf12_2.step hst he21 nn2
 replace hb15 := he21.box hb15 nn
 replace hms := MS.call0 [blk a0_21] [blk a0_21, [b15], blk a0_12, blk a2_12, [b8], blk a0_6, [b3], M] hms he21 hmn21 hfn21 rfl
 have hfr2 := FR.call0 [blk a0_21, [b15], blk a0_12, blk a2_12, [b8], blk a0_6, [b3]] hev.size hfn21 hfr rfl
 replace hev := hev.ext he21
 replace hfr := hfr2
 clear hfr2
 replace hf21_1 := OwnS.plain (M' := fl [blk a0_21, [b15], blk a0_12, blk a2_12, [b8], blk a0_6, [b3], M]) (plain_int _) hf21_1
 clear hpk hsb hst
 refine x_u 5 [(28, .tuple #[Vl a0_21 x20.1 c0_21, Vi x20.2]), (33, Vl a0_21 x20.1 c0_21), (34, Vi x20.2), (12, Vl a0_21 x20.1 c0_21), (11, Vi x20.2)] (x_ek (c_seq (c_sp (x_u 2 [(35, Vi x20.2), (36, .bool (x20.2 != 0))] (x_ek ?_)))))
 refine c_nm [(2, Vl a_p2 p2 c_p2), (6, Vp b3 0), (9, Vp b8 0), (10, Vp b15 0), (11, Vi x20.2), (12, Vl a0_21 x20.1 c0_21), (36, .bool (x20.2 != 0))] (fun J => ?_)
 refine c_if (x20.2 != 0) rfl h (fun h => ?_) (fun h => ?_)
 · refine c_sp (x_build (vs := []) (.agg #[.slice none 0 0, Vi 0, Vi 0, .slice none 0 0, .slice none 0 0, .slice none 0 0]) rfl rfl rfl (fun _ _ => by kernel_rfl) ?_)
   refine x_u 1 [(38, Vi x20.2)] ?_
   obtain ⟨w24, hr24, hb24, he24⟩ := store_boxagg 0 [.slice none 0 0, Vi 0, Vi 0, .slice none 0 0, .slice none 0 0, .slice none 0 0] #[.slice none 0 0, Vi 0, Vi 0, .slice none 0 0, .slice none 0 0, .slice none 0 0] tagg67 hb3 rfl rfl rfl
   refine x_store w24 (xv := Vp b3 0) (yv := .agg #[.slice none 0 0, Vi 0, Vi 0, .slice none 0 0, .slice none 0 0, .slice none 0 0]) rfl rfl rfl rfl hr24 (inl1 ?_)
   replace hms := hms.ev he24
   replace hev := hev.then he24 (fun b hb => .inr (hfr.at 6 rfl b hb))
   replace hb3 := hb24
   refine x_u 2 [(7, .slice none 0 0), (8, Vi x20.2)] (x_ek (c_ret (k_then_ret (r_ret (r_vals [.agg #[.slice none 0 0, Vi 0, Vi 0, .slice none 0 0, .slice none 0 0, .slice none 0 0], .slice none 0 0, Vi x20.2] ⟨⟨_, rfl, loadVar_of_reads (reads_boxagg (Mo := []) 0 [.slice none 0 0, Vi 0, Vi 0, .slice none 0 0, .slice none 0 0, .slice none 0 0] tagg67 hb3 nn rfl)⟩, rfl, rfl, trivial⟩ ?_)))))
   obtain rfl := some_inj h
   have hmr := hms.pick [none, none, none, none, none, some 7] [blk none, blk none, blk none, blk none, blk none, M] rfl
   have hfe := hfr.pick [none, none, none, none, none] [blk none, blk none, blk none, blk none, blk none] rfl
   exact ⟨none, 0, none, 0, none, 0, none, 0, none, 0, rfl, hev, hmr, hfe, OwnS.nil _ _ _ _, OwnS.nil _ _ _ _, OwnS.nil _ _ _ _, OwnS.nil _ _ _ _, OwnS.nil _ _ _ _⟩
 refine c_skip (k_then (c_sp (x_u 2 [(40, Vl a0_21 x20.1 c0_21), (41, Vl a_p2 p2 c_p2)] ?_)))
 obtain ⟨x25, hx, h⟩ := bind_some h
 have hpk := hms.pick [some 1, some 2, some 3, some 4, some 5, some 6, some 7] ([] ++ [[b15], blk a0_12, blk a2_12, [b8], blk a0_6, [b3], M]) rfl
 have hsb := sub_fold (ls := [blk a0_21, [b15], blk a0_12, blk a2_12, [b8], blk a0_6, [b3], M]) [some 1, some 2, some 3, some 4, some 5, some 6, some 7] [[b15], blk a0_12, blk a2_12, [b8], blk a0_6, [b3], M] rfl
 have hcall := assign_Match_w a0_21 c0_21 x20.1 a_p2 c_p2 p2 _ w21 (fl [[b15], blk a0_12, blk a2_12, [b8], blk a0_6, [b3], M]) (MS.fold (P := []) hpk) (hf21_1.ro hsb (pick_outf hms 0 rfl [some 1, some 2, some 3, some 4, some 5, some 6, some 7] [[b15], blk a0_12, blk a2_12, [b8], blk a0_6, [b3], M] rfl rfl)) (hs_p2.sub hsb) hx
 refine x_call 88 #[] #[] [Vl a0_21 x20.1 c0_21, Vl a_p2 p2 c_p2] _ rfl rfl rfl rfl hcall ?_
 rintro v w26 ⟨a0_26, c0_26, a2_26, c2_26, rfl, he26, hmn26, hfn26, hf26_1, hf26_2⟩
 clear hcall hx
 refine inl1 ?_
 have hst := Stp.call0 [blk a0_21, [b15], blk a0_12, blk a2_12, [b8], blk a0_6, [b3], M] [blk a0_26, blk a2_26] [blk a0_26, blk a2_26, blk a0_21, [b15], blk a0_12, blk a2_12, [b8], blk a0_6, [b3], M] he26 hfn26 rfl
 replace hb3 := he26.box hb3 nn
 replace hf6_1 := hf6_1.step hst he26 nn2
 replace hb8 := he26.box hb8 nn
 replace hf12_1 := hf12_1.step hst he26 nn2
 replace hf12_2 := hf12_2.step hst he26 nn2
 replace hb15 := he26.box hb15 nn
 replace hms := MS.call0 [blk a0_26, blk a2_26] [blk a0_26, blk a2_26, blk a0_21, [b15], blk a0_12, blk a2_12, [b8], blk a0_6, [b3], M] hms he26 hmn26 hfn26 rfl
 have hfr2 := FR.call0 [blk a0_26, blk a2_26, blk a0_21, [b15], blk a0_12, blk a2_12, [b8], blk a0_6, [b3]] hev.size hfn26 hfr rfl
 replace hev := hev.ext he26
 replace hfr := hfr2
 clear hfr2
 replace hf26_1 := OwnS.plain (M' := fl [blk a0_26, blk a2_26, blk a0_21, [b15], blk a0_12, blk a2_12, [b8], blk a0_6, [b3], M]) (plain_int _) hf26_1
 replace hf26_2 := OwnS.plain (M' := fl [blk a0_26, blk a2_26, blk a0_21, [b15], blk a0_12, blk a2_12, [b8], blk a0_6, [b3], M]) (plain_int _) hf26_2
 clear hpk hsb hst
 refine x_u 7 [(39, .tuple #[Vl a0_26 x25.1 c0_26, Vl a2_26 x25.2.1 c2_26, Vi x25.2.2]), (43, Vl a0_26 x25.1 c0_26), (44, Vl a2_26 x25.2.1 c2_26), (45, Vi x25.2.2), (13, Vl a0_26 x25.1 c0_26), (14, Vl a2_26 x25.2.1 c2_26), (11, Vi x25.2.2)] (x_ek (c_seq (c_sp (x_u 2 [(46, Vi x25.2.2), (47, .bool (x25.2.2 != 0))] (x_ek ?_)))))
 refine c_if (x25.2.2 != 0) rfl h (fun h => ?_) (fun h => ?_)
 · refine c_sp (x_build (vs := []) (.agg #[.slice none 0 0, Vi 0, Vi 0, .slice none 0 0, .slice none 0 0, .slice none 0 0]) rfl rfl rfl (fun _ _ => by kernel_rfl) ?_)
   refine x_u 2 [(49, Vl a2_26 x25.2.1 c2_26), (50, Vi x25.2.2)] ?_
   obtain ⟨w29, hr29, hb29, he29⟩ := store_boxagg 0 [.slice none 0 0, Vi 0, Vi 0, .slice none 0 0, .slice none 0 0, .slice none 0 0] #[.slice none 0 0, Vi 0, Vi 0, .slice none 0 0, .slice none 0 0, .slice none 0 0] tagg67 hb3 rfl rfl rfl
   refine x_store w29 (xv := Vp b3 0) (yv := .agg #[.slice none 0 0, Vi 0, Vi 0, .slice none 0 0, .slice none 0 0, .slice none 0 0]) rfl rfl rfl rfl hr29 (inl1 ?_)
   have hst := Stp.ev' (ls := [blk a0_26, blk a2_26, blk a0_21, [b15], blk a0_12, blk a2_12, [b8], blk a0_6, [b3], M]) he29 (mem_flat 8 rfl)
   replace hf26_2 := hf26_2.step hst he29 (hms.apart 1 8 rfl rfl rfl)
   replace hms := hms.ev he29
   replace hev := hev.then he29 (fun b hb => .inr (hfr.at 8 rfl b hb))
   replace hb3 := hb29
   refine x_u 2 [(7, Vl a2_26 x25.2.1 c2_26), (8, Vi x25.2.2)] (x_ek (c_nm [(6, Vp b3 0), (7, Vl a2_26 x25.2.1 c2_26), (8, Vi x25.2.2)] (fun J => ?_)))
   refine c_ret (k_then_ret (r_ret (r_vals [.agg #[.slice none 0 0, Vi 0, Vi 0, .slice none 0 0, .slice none 0 0, .slice none 0 0], Vl a2_26 x25.2.1 c2_26, Vi x25.2.2] ⟨⟨_, rfl, loadVar_of_reads (reads_boxagg (Mo := []) 0 [.slice none 0 0, Vi 0, Vi 0, .slice none 0 0, .slice none 0 0, .slice none 0 0] tagg67 hb3 nn rfl)⟩, rfl, rfl, trivial⟩ ?_)))
   obtain rfl := some_inj h
   have hmr := hms.pick [none, none, none, none, some 1, some 9] [blk none, blk none, blk none, blk none, blk a2_26, M] rfl
   have hsu := pick_sub (ls := [blk a0_26, blk a2_26, blk a0_21, [b15], blk a0_12, blk a2_12, [b8], blk a0_6, [b3], M]) [none, none, none, none, some 1, some 9] [blk none, blk none, blk none, blk none, blk a2_26, M] rfl
   have hfe := hfr.pick [none, none, none, none, some 1] [blk none, blk none, blk none, blk none, blk a2_26] rfl
   exact ⟨none, 0, none, 0, none, 0, none, 0, a2_26, c2_26, rfl, hev, hmr, hfe, OwnS.nil _ _ _ _, OwnS.nil _ _ _ _, OwnS.nil _ _ _ _, OwnS.nil _ _ _ _, hf26_2.sub hsu⟩
 refine c_skip (k_then (c_nm [(6, Vp b3 0), (9, Vp b8 0), (10, Vp b15 0), (13, Vl a0_26 x25.1 c0_26)] (fun J => ?_)))
 refine c_sp (x_load (xv := Vp b8 0) (.agg #[Vl a0_6 x5 c0_6, Vi p1]) rfl rfl rfl (reads_boxagg 0 [Vl a0_6 x5 c0_6, Vi p1] tagg50 hb8 nn rfl) (x_load (xv := Vp b15 0) (.agg #[Vi x11.1.1.1, Vl a0_12 x11.1.1.2 c0_12, Vl a2_12 x11.1.2 c2_12]) rfl rfl rfl (reads_boxagg 0 [Vi x11.1.1.1, Vl a0_12 x11.1.1.2 c0_12, Vl a2_12 x11.1.2 c2_12] tagg54 hb15 nn rfl) (x_u 1 [(53, Vl a0_26 x25.1 c0_26)] (x_build (vs := [(0, .agg #[Vl a0_6 x5 c0_6, Vi p1]), (1, .agg #[Vi x11.1.1.1, Vl a0_12 x11.1.1.2 c0_12, Vl a2_12 x11.1.2 c2_12]), (2, Vl a0_26 x25.1 c0_26)]) (.agg #[Vl a0_6 x5 c0_6, Vi p1, Vi x11.1.1.1, Vl a0_12 x11.1.1.2 c0_12, Vl a2_12 x11.1.2 c2_12, Vl a0_26 x25.1 c0_26]) rfl rfl rfl (fun _ _ => by kernel_rfl) ?_))))
 obtain ⟨w30, hr30, hb30, he30⟩ := store_boxagg 0 [Vl a0_6 x5 c0_6, Vi p1, Vi x11.1.1.1, Vl a0_12 x11.1.1.2 c0_12, Vl a2_12 x11.1.2 c2_12, Vl a0_26 x25.1 c0_26] #[Vl a0_6 x5 c0_6, Vi p1, Vi x11.1.1.1, Vl a0_12 x11.1.1.2 c0_12, Vl a2_12 x11.1.2 c2_12, Vl a0_26 x25.1 c0_26] tagg67 hb3 rfl rfl rfl
 refine x_store w30 (xv := Vp b3 0) (yv := .agg #[Vl a0_6 x5 c0_6, Vi p1, Vi x11.1.1.1, Vl a0_12 x11.1.1.2 c0_12, Vl a2_12 x11.1.2 c2_12, Vl a0_26 x25.1 c0_26]) rfl rfl rfl rfl hr30 (inl1 ?_)
 have hst := Stp.ev' (ls := [blk a0_26, blk a2_26, blk a0_21, [b15], blk a0_12, blk a2_12, [b8], blk a0_6, [b3], M]) he30 (mem_flat 8 rfl)
 replace hf6_1 := hf6_1.step hst he30 (hms.apart 7 8 rfl rfl rfl)
 replace hf12_1 := hf12_1.step hst he30 (hms.apart 4 8 rfl rfl rfl)
 replace hf12_2 := hf12_2.step hst he30 (hms.apart 5 8 rfl rfl rfl)
 replace hf26_1 := hf26_1.step hst he30 (hms.apart 0 8 rfl rfl rfl)
 replace hms := hms.ev he30
 replace hev := hev.then he30 (fun b hb => .inr (hfr.at 8 rfl b hb))
 replace hb3 := hb30
 refine x_u 2 [(7, .slice none 0 0), (8, Vi 0)] (x_ek (c_ret (r_ret (r_vals [.agg #[Vl a0_6 x5 c0_6, Vi p1, Vi x11.1.1.1, Vl a0_12 x11.1.1.2 c0_12, Vl a2_12 x11.1.2 c2_12, Vl a0_26 x25.1 c0_26], .slice none 0 0, Vi 0] ⟨⟨_, rfl, loadVar_of_reads (reads_boxagg (Mo := []) 0 [Vl a0_6 x5 c0_6, Vi p1, Vi x11.1.1.1, Vl a0_12 x11.1.1.2 c0_12, Vl a2_12 x11.1.2 c2_12, Vl a0_26 x25.1 c0_26] tagg67 hb3 nn rfl)⟩, rfl, rfl, trivial⟩ ?_))))
 obtain rfl := some_inj h
 have hmr := hms.pick [some 7, some 4, some 5, some 0, none, some 9] [blk a0_6, blk a0_12, blk a2_12, blk a0_26, blk none, M] rfl
 have hsu := pick_sub (ls := [blk a0_26, blk a2_26, blk a0_21, [b15], blk a0_12, blk a2_12, [b8], blk a0_6, [b3], M]) [some 7, some 4, some 5, some 0, none, some 9] [blk a0_6, blk a0_12, blk a2_12, blk a0_26, blk none, M] rfl
 have hfe := hfr.pick [some 7, some 4, some 5, some 0, none] [blk a0_6, blk a0_12, blk a2_12, blk a0_26, blk none] rfl
 exact ⟨a0_6, c0_6, a0_12, c0_12, a2_12, c2_12, a0_26, c0_26, none, 0, rfl, hev, hmr, hfe, hf6_1.sub hsu, hf12_1.sub hsu, hf12_2.sub hsu, hf26_1.sub hsu, OwnS.nil _ _ _ _⟩
def planner_Plan_L10 (p0 : List (Int × Int × Int × Int)) (p1 : List Int) (x5 : (List (Int × Int × Int × Int)) × Int) (s : (List Int) × Int) : Option (Step ((List Int) × Int) (((List (Int × Int × Int × Int)) × Int × Int × (List Int) × (List Int) × (List Int) × Int) ⊕ (List Int))) :=
match s with
| (d12_l10, t26__s26_l10) =>
(if (decide (t26__s26_l10 < ((x5.1).length : Int))) = true then
((idx x5.1 t26__s26_l10).bind fun x16 =>
((planner_sheet p0 x16.1 p1).bind fun x21 =>
(if (x21.2.2 == 0) = true then
some (.done (.inl (x21.1.1.1, x21.1.1.2, x21.1.2.1.1.1, x21.1.2.1.1.2, x21.1.2.1.2, x21.1.2.2, 0)))
else
(if (x21.2.2 == 14) = true then
(if (t26__s26_l10 == 0) = true then
some (.next (x21.2.1, IntKind.i64.wrap (t26__s26_l10 + 1)))
else
some (.next (d12_l10, IntKind.i64.wrap (t26__s26_l10 + 1))))
else
some (.done (.inl (([] : List (Int × Int × Int × Int)), 0, 0, ([] : List Int), ([] : List Int), ([] : List Int), x21.2.2)))))))
else
some (.done (.inr d12_l10)))
def planner_Plan (p0 : List (Int × Int × Int × Int)) (p1 : List Int) : Option ((((List (Int × Int × Int × Int)) × Int) × ((Int × (List Int)) × (List Int)) × (List Int)) × (List Int) × Int) :=
((planner_Schemes p0).bind fun x5 =>
(if (x5.2 != 0) = true then
some ((([], 0), ((0, []), []), []), [], x5.2)
else
((loop (planner_Plan_L10 p0 p1 x5) (([] : List Int), 0)).bind fun d => match d with
| (.inl (d23_x1000, e4_x1000_1, e4_x1000_2, d24_x1000, d25_x1000, d26_x1000, t6__s6_x1000)) => some (((d23_x1000, e4_x1000_1), ((e4_x1000_2, d24_x1000), d25_x1000), d26_x1000), [], t6__s6_x1000)
| (.inr d12_x1001) => some ((([], 0), ((0, []), []), []), d12_x1001, 14))))
theorem planner_Plan_w (a_p0 : Option Addr) (c_p0 : Nat) (p0 : List (Int × Int × Int × Int)) (a_p1 : Option Addr) (c_p1 : Nat) (p1 : List Int) (r : (((List (Int × Int × Int × Int)) × Int) × ((Int × (List Int)) × (List Int)) × (List Int)) × (List Int) × Int) (w : World) (M : List Nat) (hms : MS w [M]) (hs_p0 : SlR (eIt4) w (fl [M]) a_p0 c_p0 p0) (hs_p1 : SlR (eInt .i64) w (fl [M]) a_p1 c_p1 p1) (h : planner_Plan p0 p1 = some r) : CallVC Tryz.prog 25 [Vl a_p0 p0 c_p0, Vl a_p1 p1 c_p1] w fun v w' => ∃ (a0' : Option Addr), ∃ (c0' : Nat), ∃ (a2' : Option Addr), ∃ (c2' : Nat), ∃ (a4' : Option Addr), ∃ (c4' : Nat), ∃ (a6' : Option Addr), ∃ (c6' : Nat), ∃ (a8' : Option Addr), ∃ (c8' : Nat), v = .tuple #[.agg #[Vl a0' r.1.1.1 c0', Vi r.1.1.2, Vi r.1.2.1.1.1, Vl a2' r.1.2.1.1.2 c2', Vl a4' r.1.2.1.2 c4', Vl a6' r.1.2.2 c6'], Vl a8' r.2.1 c8', Vi r.2.2] ∧ Ev [] w w' ∧ MS w' [blk a0', blk a2', blk a4', blk a6', blk a8', M] ∧ FR w.heap.size [blk a0', blk a2', blk a4', blk a6', blk a8'] ∧ OwnS (eIt4) 76 w' (fl [blk a0', blk a2', blk a4', blk a6', blk a8', M]) a0' c0' r.1.1.1 ∧ OwnS (eInt .i64) 3 w' (fl [blk a0', blk a2', blk a4', blk a6', blk a8', M]) a2' c2' r.1.2.1.1.2 ∧ OwnS (eInt .i64) 3 w' (fl [blk a0', blk a2', blk a4', blk a6', blk a8', M]) a4' c4' r.1.2.1.2 ∧ OwnS (eInt .i64) 3 w' (fl [blk a0', blk a2', blk a4', blk a6', blk a8', M]) a6' c6' r.1.2.2 ∧ OwnS (eInt .i64) 3 w' (fl [blk a0', blk a2', blk a4', blk a6', blk a8', M]) a8' c8' r.2.1 := by
 refine calls_vc hmx Tryz.func25 (by kernel_rfl) rfl (rs := [.cell 4 67, .tmp 5, .tmp 6]) rfl (by kernel_rfl) (args := [Vl a_p0 p0 c_p0, Vl a_p1 p1 c_p1]) rfl ?_
 have hev : Ev [] w w := Ev.refl _ _
 have hfr : FR w.heap.size [] := FR.nil _
 refine c_sp (x_alloc (z := .agg #[.slice none 0 0, Vi 0, Vi 0, .slice none 0 0, .slice none 0 0, .slice none 0 0]) rfl rfl (by kernel_rfl) (fun b3 w3 hq3 hb3 he3 hz3 => ?_))
 replace hb3 : w3.heap[b3]? = some (.cells #[.slice none 0 0, Vi 0, Vi 0, .slice none 0 0, .slice none 0 0, .slice none 0 0] 67 (0, 0)) := hb3
 refine inl1 ?_
 have hst := Stp.box (ls := [M]) he3 hq3
 replace hs_p0 := hs_p0.step hst
 replace hs_p1 := hs_p1.step hst
 replace hms := hms.box he3 hq3 hb3
 replace hfr := hfr.box hev.size hq3
 replace hev := hev.ext he3
 refine x_u 2 [(5, .slice none 0 0), (6, Vi 0)] (x_ek (c_sp (x_u 1 [(16, Vl a_p0 p0 c_p0)] ?_)))
 obtain ⟨x5, hx, h⟩ := bind_some h
 have hcall := planner_Schemes_w a_p0 c_p0 p0 _ w3 (fl [[b3], M]) (MS.fold (P := []) hms) (hs_p0.sub fl1) hx
 refine x_call 20 #[] #[] [Vl a_p0 p0 c_p0] _ rfl rfl rfl rfl hcall ?_
 rintro v w6 ⟨a0_6, c0_6, rfl, he6, hmn6, hfn6, hf6_1⟩
 clear hcall hx
 refine inl1 ?_
 have hst := Stp.call0 [[b3], M] [blk a0_6] [blk a0_6, [b3], M] he6 hfn6 rfl
 replace hs_p0 := hs_p0.step hst
 replace hs_p1 := hs_p1.step hst
 replace hb3 := he6.box hb3 nn
 replace hms := MS.call0 [blk a0_6] [blk a0_6, [b3], M] hms he6 hmn6 hfn6 rfl
 have hfr2 := FR.call0 [blk a0_6, [b3]] hev.size hfn6 hfr rfl
 replace hev := hev.ext he6
 replace hfr := hfr2
 clear hfr2
 replace hf6_1 := OwnS.plain (M' := fl [blk a0_6, [b3], M]) (plain_prod (plain_int _) (plain_prod (plain_int _) (plain_prod (plain_int _) (plain_int _)))) hf6_1
 clear hst
 refine x_u 5 [(15, .tuple #[Vl a0_6 x5.1 c0_6, Vi x5.2]), (18, Vl a0_6 x5.1 c0_6), (19, Vi x5.2), (7, Vl a0_6 x5.1 c0_6), (8, Vi x5.2)] (x_ek (c_seq (c_sp (x_u 2 [(20, Vi x5.2), (21, .bool (x5.2 != 0))] (x_ek ?_)))))
 refine c_if (x5.2 != 0) rfl h (fun h => ?_) (fun h => ?_)
 · refine c_sp (x_build (vs := []) (.agg #[.slice none 0 0, Vi 0, Vi 0, .slice none 0 0, .slice none 0 0, .slice none 0 0]) rfl rfl rfl (fun _ _ => by kernel_rfl) ?_)
   refine x_u 1 [(23, Vi x5.2)] ?_
   obtain ⟨w9, hr9, hb9, he9⟩ := store_boxagg 0 [.slice none 0 0, Vi 0, Vi 0, .slice none 0 0, .slice none 0 0, .slice none 0 0] #[.slice none 0 0, Vi 0, Vi 0, .slice none 0 0, .slice none 0 0, .slice none 0 0] tagg67 hb3 rfl rfl rfl
   refine x_store w9 (xv := Vp b3 0) (yv := .agg #[.slice none 0 0, Vi 0, Vi 0, .slice none 0 0, .slice none 0 0, .slice none 0 0]) rfl rfl rfl rfl hr9 (inl1 ?_)
   replace hms := hms.ev he9
   replace hev := hev.then he9 (fun b hb => .inr (hfr.at 1 rfl b hb))
   replace hb3 := hb9
   refine x_u 2 [(5, .slice none 0 0), (6, Vi x5.2)] (x_ek (c_nm [(4, Vp b3 0), (5, .slice none 0 0), (6, Vi x5.2)] (fun J => ?_)))
   refine c_ret (k_then_ret (r_ret (r_vals [.agg #[.slice none 0 0, Vi 0, Vi 0, .slice none 0 0, .slice none 0 0, .slice none 0 0], .slice none 0 0, Vi x5.2] ⟨⟨_, rfl, loadVar_of_reads (reads_boxagg (Mo := []) 0 [.slice none 0 0, Vi 0, Vi 0, .slice none 0 0, .slice none 0 0, .slice none 0 0] tagg67 hb3 nn rfl)⟩, rfl, rfl, trivial⟩ ?_)))
   obtain rfl := some_inj h
   have hmr := hms.pick [none, none, none, none, none, some 2] [blk none, blk none, blk none, blk none, blk none, M] rfl
   have hfe := hfr.pick [none, none, none, none, none] [blk none, blk none, blk none, blk none, blk none] rfl
   exact ⟨none, 0, none, 0, none, 0, none, 0, none, 0, rfl, hev, hmr, hfe, OwnS.nil _ _ _ _, OwnS.nil _ _ _ _, OwnS.nil _ _ _ _, OwnS.nil _ _ _ _, OwnS.nil _ _ _ _⟩
 refine c_skip (k_then (c_sp (x_u 1 [(9, .slice none 0 0)] (x_ek (c_nm [(0, Vl a_p0 p0 c_p0), (1, Vl a_p1 p1 c_p1), (4, Vp b3 0), (7, Vl a0_6 x5.1 c0_6), (9, .slice none 0 0)] (fun J => ?_))))))
 refine c_seq (c_sp (x_u 1 [(24, Vl a0_6 x5.1 c0_6)] (x_len (vs := [Vl a0_6 x5.1 c0_6]) (Vi ((x5.1).length : Int)) rfl rfl rfl (reads_len tsl44 _ _ _ _ _) (x_u 1 [(26, Vi 0)] (x_ek ?_)))))
 refine c_block ?_
 have hst := Stp.push (ls := [blk a0_6, [b3], M]) (l := blk none) (Ev.refl [] w6) (fun _ h => by cases h) (fun _ h => by cases h)
 replace hs_p0 := hs_p0.step hst
 replace hs_p1 := hs_p1.step hst
 replace hb3 := (Ev.refl [] _).box hb3 nn
 replace hf6_1 := hf6_1.step hst (Ev.refl [] _) nn2
 replace hms := hms.push (l := blk none) (Ev.refl [] _) (fun _ h => by cases h)
 replace hfr := hfr.push (l := blk none) (fun _ h => by cases h)
 have ho11 := OwnS.nil (eInt .i64) 3 w6 (fl [blk none, blk a0_6, [b3], M])
 have hpk := hms.pick [some 2, some 0, some 1, some 3] [[b3], blk none, blk a0_6, M] rfl
 have hsu := pick_sub (ls := [blk none, blk a0_6, [b3], M]) [some 2, some 0, some 1, some 3] [[b3], blk none, blk a0_6, M] rfl
 replace hs_p0 := hs_p0.sub hsu
 replace hs_p1 := hs_p1.sub hsu
 replace ho11 := ho11.sub hsu
 replace hf6_1 := hf6_1.sub hsu
 replace hms := hpk
 replace hfr := hfr.pick [some 2, some 0, some 1] [[b3], blk none, blk a0_6] rfl
 clear hpk hsu
 obtain ⟨d10, hd10, h10⟩ := bind_some h
 obtain ⟨m10, hd10⟩ := loop_some hd10
 refine c_loop (loop_rule hmx (σ := Nat × (List Int) × Int × Option Addr × Nat) (fun s => match s with | (_, d12_l10, t26__s26_l10, a12_l10, c12_l10) => [(0, Vl a_p0 p0 c_p0), (1, Vl a_p1 p1 c_p1), (4, Vp b3 0), (9, Vl a12_l10 d12_l10 c12_l10), (24, Vl a0_6 x5.1 c0_6), (25, Vi ((x5.1).length : Int)), (26, Vi t26__s26_l10)]) (fun s w' => match s with | (m, d12_l10, t26__s26_l10, a12_l10, c12_l10) => loopN (planner_Plan_L10 p0 p1 x5) m (d12_l10, t26__s26_l10) = some d10 ∧ Ev [] w w' ∧ MS w' [[b3], blk a12_l10, blk a0_6, M] ∧ FR w.heap.size [[b3], blk a12_l10, blk a0_6] ∧ SlR (eIt4) w' (fl [[b3], blk a12_l10, blk a0_6, M]) a_p0 c_p0 p0 ∧ SlR (eInt .i64) w' (fl [[b3], blk a12_l10, blk a0_6, M]) a_p1 c_p1 p1 ∧ w'.heap[b3]? = some (.cells #[.slice none 0 0, Vi 0, Vi 0, .slice none 0 0, .slice none 0 0, .slice none 0 0] 67 (0, 0)) ∧ OwnS (eInt .i64) 3 w' (fl [[b3], blk a12_l10, blk a0_6, M]) a12_l10 c12_l10 d12_l10 ∧ OwnS (eIt4) 48 w' (fl [[b3], blk a12_l10, blk a0_6, M]) a0_6 c0_6 x5.1) (fun s => s.1) (m10, ([] : List Int), 0, none, 0) ⟨rfl, rfl, rfl, rfl, rfl, rfl, rfl, trivial⟩ ⟨hd10, hev, hms, hfr, hs_p0, hs_p1, hb3, ho11, hf6_1⟩ ?_)
 rintro ⟨m10, d12_l10, t26__s26_l10, a12_l10, c12_l10⟩ J wl10 ⟨hn10, hev, hms, hfr, hs_p0, hs_p1, hb3, hj12_l10, hf6_1⟩
 rcases m10 with _ | m10
 · exact (loopN_zero hn10).elim
 obtain ⟨t10, h, hn10⟩ := bind_some hn10
 refine c_sp (x_u 1 [(27, .bool (decide (t26__s26_l10 < ((x5.1).length : Int))))] (x_ek (c_nm [(0, Vl a_p0 p0 c_p0), (1, Vl a_p1 p1 c_p1), (4, Vp b3 0), (9, Vl a12_l10 d12_l10 c12_l10), (24, Vl a0_6 x5.1 c0_6), (25, Vi ((x5.1).length : Int)), (26, Vi t26__s26_l10), (27, .bool (decide (t26__s26_l10 < ((x5.1).length : Int))))] (fun J => ?_))))
 refine c_seq (c_if (decide (t26__s26_l10 < ((x5.1).length : Int))) rfl h (fun h => ?_) (fun h => ?_))
 · refine c_skip (k_then (c_seq (c_block (c_sp (x_u 1 [(28, Vi t26__s26_l10)] ?_)))))
   obtain ⟨x16, hx16, h⟩ := bind_some h
   obtain ⟨g16, cs16, ha16, hr16, hc16, hR⟩ := own_index (Mo := []) tsl44 hf6_1 hx16
   obtain ⟨_, _, rfl, rfl, ⟨_, _, rfl, rfl, ⟨_, _, rfl, rfl, rfl⟩⟩⟩ := hR
   refine x_indexAddr (xv := Vl a0_6 x5.1 c0_6) (yv := Vi t26__s26_l10) (.pointer (some ⟨g16, (Int.toNat t26__s26_l10) * (eIt4).n, none⟩)) rfl rfl rfl rfl hr16 (x_load (xv := .pointer (some ⟨g16, (Int.toNat t26__s26_l10) * (eIt4).n, none⟩)) (.agg #[Vi x16.1, Vi x16.2.1, Vi x16.2.2.1, Vi x16.2.2.2]) rfl rfl rfl (reads_agg tagg48 hc16 (fun _ h => by cases h)) ?_)
   refine x_alloc (z := .agg #[Vi 0, Vi 0, Vi 0, Vi 0]) rfl rfl (by kernel_rfl) (fun b18 w18 hq18 hb18 he18 hz18 => ?_)
   replace hb18 : w18.heap[b18]? = some (.cells #[Vi 0, Vi 0, Vi 0, Vi 0] 48 (0, 0)) := hb18
   refine inl1 ?_
   have hst := Stp.box (ls := [[b3], blk a12_l10, blk a0_6, M]) he18 hq18
   replace hs_p0 := hs_p0.step hst
   replace hs_p1 := hs_p1.step hst
   replace hb3 := he18.box hb3 nn
   replace hj12_l10 := hj12_l10.step hst he18 nn2
   replace hf6_1 := hf6_1.step hst he18 nn2
   replace hms := hms.box he18 hq18 hb18
   replace hfr := hfr.box hev.size hq18
   replace hev := hev.ext he18
   refine x_u 1 [(10, Vi t26__s26_l10)] ?_
   obtain ⟨w20, hr20, hb20, he20⟩ := store_boxagg 0 [Vi x16.1, Vi x16.2.1, Vi x16.2.2.1, Vi x16.2.2.2] #[Vi x16.1, Vi x16.2.1, Vi x16.2.2.1, Vi x16.2.2.2] tagg48 hb18 rfl rfl rfl
   refine x_store w20 (xv := Vp b18 0) (yv := .agg #[Vi x16.1, Vi x16.2.1, Vi x16.2.2.1, Vi x16.2.2.2]) rfl rfl rfl rfl hr20 (inl1 ?_)
   have hst := Stp.ev' (ls := [[b18], [b3], blk a12_l10, blk a0_6, M]) he20 (mem_flat 0 rfl)
   replace hs_p0 := hs_p0.step hst
   replace hs_p1 := hs_p1.step hst
   replace hb3 := he20.box hb3 (hms.apart 1 0 rfl rfl rfl _ mem1)
   replace hj12_l10 := hj12_l10.step hst he20 (hms.apart 2 0 rfl rfl rfl)
   replace hf6_1 := hf6_1.step hst he20 (hms.apart 3 0 rfl rfl rfl)
   replace hms := hms.ev he20
   replace hev := hev.then he20 (fun b hb => .inr (hfr.at 0 rfl b hb))
   replace hb18 := hb20
   refine x_ek (c_sp (x_u 1 [(32, Vl a_p0 p0 c_p0)] (x_fieldAddr (xv := Vp b18 0) (Vp b18 0) rfl rfl rfl (reads_field tfld48_0 _ _) (x_load (xv := Vp b18 0) (Vi x16.1) rfl rfl rfl (reads_box tcell3 hb18 nn 0 _ rfl) (x_u 1 [(35, Vl a_p1 p1 c_p1)] ?_)))))
   obtain ⟨x21, hx, h⟩ := bind_some h
   have hcall := planner_sheet_w a_p0 c_p0 p0 x16.1 a_p1 c_p1 p1 _ w20 (fl [[b18], [b3], blk a12_l10, blk a0_6, M]) (MS.fold (P := []) hms) (hs_p0.sub fl1) (hs_p1.sub fl1) hx
   refine x_call 55 #[] #[] [Vl a_p0 p0 c_p0, Vi x16.1, Vl a_p1 p1 c_p1] _ rfl rfl rfl rfl hcall ?_
   rintro v w22 ⟨a0_22, c0_22, a2_22, c2_22, a4_22, c4_22, a6_22, c6_22, a8_22, c8_22, rfl, he22, hmn22, hfn22, hf22_1, hf22_2, hf22_3, hf22_4, hf22_5⟩
   clear hcall hx
   refine inl1 ?_
   have hst := Stp.call0 [[b18], [b3], blk a12_l10, blk a0_6, M] [blk a0_22, blk a2_22, blk a4_22, blk a6_22, blk a8_22] [blk a0_22, blk a2_22, blk a4_22, blk a6_22, blk a8_22, [b18], [b3], blk a12_l10, blk a0_6, M] he22 hfn22 rfl
   replace hs_p0 := hs_p0.step hst
   replace hs_p1 := hs_p1.step hst
   replace hb3 := he22.box hb3 nn
   replace hj12_l10 := hj12_l10.step hst he22 nn2
   replace hf6_1 := hf6_1.step hst he22 nn2
   replace hms := MS.call0 [blk a0_22, blk a2_22, blk a4_22, blk a6_22, blk a8_22] [blk a0_22, blk a2_22, blk a4_22, blk a6_22, blk a8_22, [b18], [b3], blk a12_l10, blk a0_6, M] hms he22 hmn22 hfn22 rfl
   have hfr2 := FR.call0 [blk a0_22, blk a2_22, blk a4_22, blk a6_22, blk a8_22, [b18], [b3], blk a12_l10, blk a0_6] hev.size hfn22 hfr rfl
   replace hev := hev.ext he22
   replace hfr := hfr2
   clear hfr2
   replace hf22_1 := OwnS.plain (M' := fl [blk a0_22, blk a2_22, blk a4_22, blk a6_22, blk a8_22, [b18], [b3], blk a12_l10, blk a0_6, M]) (plain_prod (plain_int _) (plain_prod (plain_int _) (plain_prod (plain_int _) (plain_int _)))) hf22_1
   replace hf22_2 := OwnS.plain (M' := fl [blk a0_22, blk a2_22, blk a4_22, blk a6_22, blk a8_22, [b18], [b3], blk a12_l10, blk a0_6, M]) (plain_int _) hf22_2
   replace hf22_3 := OwnS.plain (M' := fl [blk a0_22, blk a2_22, blk a4_22, blk a6_22, blk a8_22, [b18], [b3], blk a12_l10, blk a0_6, M]) (plain_int _) hf22_3
   replace hf22_4 := OwnS.plain (M' := fl [blk a0_22, blk a2_22, blk a4_22, blk a6_22, blk a8_22, [b18], [b3], blk a12_l10, blk a0_6, M]) (plain_int _) hf22_4
   replace hf22_5 := OwnS.plain (M' := fl [blk a0_22, blk a2_22, blk a4_22, blk a6_22, blk a8_22, [b18], [b3], blk a12_l10, blk a0_6, M]) (plain_int _) hf22_5
   clear hst
   refine x_u 4 [(31, .tuple #[.agg #[Vl a0_22 x21.1.1.1 c0_22, Vi x21.1.1.2, Vi x21.1.2.1.1.1, Vl a2_22 x21.1.2.1.1.2 c2_22, Vl a4_22 x21.1.2.1.2 c4_22, Vl a6_22 x21.1.2.2 c6_22], Vl a8_22 x21.2.1 c8_22, Vi x21.2.2]), (37, .agg #[Vl a0_22 x21.1.1.1 c0_22, Vi x21.1.1.2, Vi x21.1.2.1.1.1, Vl a2_22 x21.1.2.1.1.2 c2_22, Vl a4_22 x21.1.2.1.2 c4_22, Vl a6_22 x21.1.2.2 c6_22]), (38, Vl a8_22 x21.2.1 c8_22), (39, Vi x21.2.2)] (x_alloc (z := .agg #[.slice none 0 0, Vi 0, Vi 0, .slice none 0 0, .slice none 0 0, .slice none 0 0]) rfl rfl (by kernel_rfl) (fun b28 w28 hq28 hb28 he28 hz28 => ?_))
   replace hb28 : w28.heap[b28]? = some (.cells #[.slice none 0 0, Vi 0, Vi 0, .slice none 0 0, .slice none 0 0, .slice none 0 0] 67 (0, 0)) := hb28
   refine inl1 ?_
   have hst := Stp.box (ls := [blk a0_22, blk a2_22, blk a4_22, blk a6_22, blk a8_22, [b18], [b3], blk a12_l10, blk a0_6, M]) he28 hq28
   replace hs_p0 := hs_p0.step hst
   replace hs_p1 := hs_p1.step hst
   replace hb3 := he28.box hb3 nn
   replace hj12_l10 := hj12_l10.step hst he28 nn2
   replace hf6_1 := hf6_1.step hst he28 nn2
   replace hf22_1 := hf22_1.step hst he28 nn2
   replace hf22_2 := hf22_2.step hst he28 nn2
   replace hf22_3 := hf22_3.step hst he28 nn2
   replace hf22_4 := hf22_4.step hst he28 nn2
   replace hf22_5 := hf22_5.step hst he28 nn2
   replace hms := hms.box he28 hq28 hb28
   replace hfr := hfr.box hev.size hq28
   replace hev := hev.ext he28
   obtain ⟨w30, hr30, hb30, he30⟩ := store_boxagg 0 [Vl a0_22 x21.1.1.1 c0_22, Vi x21.1.1.2, Vi x21.1.2.1.1.1, Vl a2_22 x21.1.2.1.1.2 c2_22, Vl a4_22 x21.1.2.1.2 c4_22, Vl a6_22 x21.1.2.2 c6_22] #[Vl a0_22 x21.1.1.1 c0_22, Vi x21.1.1.2, Vi x21.1.2.1.1.1, Vl a2_22 x21.1.2.1.1.2 c2_22, Vl a4_22 x21.1.2.1.2 c4_22, Vl a6_22 x21.1.2.2 c6_22] tagg67 hb28 rfl rfl rfl
   refine x_store w30 (xv := Vp b28 0) (yv := .agg #[Vl a0_22 x21.1.1.1 c0_22, Vi x21.1.1.2, Vi x21.1.2.1.1.1, Vl a2_22 x21.1.2.1.1.2 c2_22, Vl a4_22 x21.1.2.1.2 c4_22, Vl a6_22 x21.1.2.2 c6_22]) rfl rfl rfl rfl hr30 (inl1 ?_)
   have hst := Stp.ev' (ls := [[b28], blk a0_22, blk a2_22, blk a4_22, blk a6_22, blk a8_22, [b18], [b3], blk a12_l10, blk a0_6, M]) he30 (mem_flat 0 rfl)
   replace hs_p0 := hs_p0.step hst
   replace hs_p1 := hs_p1.step hst
   replace hb3 := he30.box hb3 (hms.apart 7 0 rfl rfl rfl _ mem1)
   replace hj12_l10 := hj12_l10.step hst he30 (hms.apart 8 0 rfl rfl rfl)
   replace hf6_1 := hf6_1.step hst he30 (hms.apart 9 0 rfl rfl rfl)
   replace hf22_1 := hf22_1.step hst he30 (hms.apart 1 0 rfl rfl rfl)
   replace hf22_2 := hf22_2.step hst he30 (hms.apart 2 0 rfl rfl rfl)
   replace hf22_3 := hf22_3.step hst he30 (hms.apart 3 0 rfl rfl rfl)
   replace hf22_4 := hf22_4.step hst he30 (hms.apart 4 0 rfl rfl rfl)
   replace hf22_5 := hf22_5.step hst he30 (hms.apart 5 0 rfl rfl rfl)
   replace hms := hms.ev he30
   replace hev := hev.then he30 (fun b hb => .inr (hfr.at 0 rfl b hb))
   replace hb28 := hb30
   refine x_u 2 [(13, Vl a8_22 x21.2.1 c8_22), (14, Vi x21.2.2)] (x_ek (c_nm [(0, Vl a_p0 p0 c_p0), (1, Vl a_p1 p1 c_p1), (4, Vp b3 0), (9, Vl a12_l10 d12_l10 c12_l10), (10, Vi t26__s26_l10), (12, Vp b28 0), (13, Vl a8_22 x21.2.1 c8_22), (14, Vi x21.2.2), (24, Vl a0_6 x5.1 c0_6), (25, Vi ((x5.1).length : Int)), (26, Vi t26__s26_l10)] (fun J => ?_)))
   refine c_sp (x_u 1 [(40, Vi x21.2.2)] (x_ek (c_block (c_sp (x_u 2 [(44, .bool (x21.2.2 == 0)), (43, .bool (x21.2.2 == 0))] ?_)))))
   refine x_ek (c_if (x21.2.2 == 0) rfl h (fun h => ?_) (fun h => ?_))
   · refine c_sp (x_load (xv := Vp b28 0) (.agg #[Vl a0_22 x21.1.1.1 c0_22, Vi x21.1.1.2, Vi x21.1.2.1.1.1, Vl a2_22 x21.1.2.1.1.2 c2_22, Vl a4_22 x21.1.2.1.2 c4_22, Vl a6_22 x21.1.2.2 c6_22]) rfl rfl rfl (reads_boxagg 0 [Vl a0_22 x21.1.1.1 c0_22, Vi x21.1.1.2, Vi x21.1.2.1.1.1, Vl a2_22 x21.1.2.1.1.2 c2_22, Vl a4_22 x21.1.2.1.2 c4_22, Vl a6_22 x21.1.2.2 c6_22] tagg67 hb28 nn rfl) ?_)
     obtain ⟨w31, hr31, hb31, he31⟩ := store_boxagg 0 [Vl a0_22 x21.1.1.1 c0_22, Vi x21.1.1.2, Vi x21.1.2.1.1.1, Vl a2_22 x21.1.2.1.1.2 c2_22, Vl a4_22 x21.1.2.1.2 c4_22, Vl a6_22 x21.1.2.2 c6_22] #[Vl a0_22 x21.1.1.1 c0_22, Vi x21.1.1.2, Vi x21.1.2.1.1.1, Vl a2_22 x21.1.2.1.1.2 c2_22, Vl a4_22 x21.1.2.1.2 c4_22, Vl a6_22 x21.1.2.2 c6_22] tagg67 hb3 rfl rfl rfl
     refine x_store w31 (xv := Vp b3 0) (yv := .agg #[Vl a0_22 x21.1.1.1 c0_22, Vi x21.1.1.2, Vi x21.1.2.1.1.1, Vl a2_22 x21.1.2.1.1.2 c2_22, Vl a4_22 x21.1.2.1.2 c4_22, Vl a6_22 x21.1.2.2 c6_22]) rfl rfl rfl rfl hr31 (inl1 ?_)
     have hst := Stp.ev' (ls := [[b28], blk a0_22, blk a2_22, blk a4_22, blk a6_22, blk a8_22, [b18], [b3], blk a12_l10, blk a0_6, M]) he31 (mem_flat 7 rfl)
     replace hf22_1 := hf22_1.step hst he31 (hms.apart 1 7 rfl rfl rfl)
     replace hf22_2 := hf22_2.step hst he31 (hms.apart 2 7 rfl rfl rfl)
     replace hf22_3 := hf22_3.step hst he31 (hms.apart 3 7 rfl rfl rfl)
     replace hf22_4 := hf22_4.step hst he31 (hms.apart 4 7 rfl rfl rfl)
     replace hms := hms.ev he31
     replace hev := hev.then he31 (fun b hb => .inr (hfr.at 7 rfl b hb))
     replace hb3 := hb31
     refine x_u 2 [(5, .slice none 0 0), (6, Vi 0)] (x_ek (c_ret (k_block_ret (k_block_ret (k_then_ret ?_)))))
     obtain rfl := some_inj h
     have hy := some_inj hn10
     subst hy
     replace h := h10
     refine k_then_ret (k_block_ret (k_then_ret (r_ret (r_vals [.agg #[Vl a0_22 x21.1.1.1 c0_22, Vi x21.1.1.2, Vi x21.1.2.1.1.1, Vl a2_22 x21.1.2.1.1.2 c2_22, Vl a4_22 x21.1.2.1.2 c4_22, Vl a6_22 x21.1.2.2 c6_22], .slice none 0 0, Vi 0] ⟨⟨_, rfl, loadVar_of_reads (reads_boxagg (Mo := []) 0 [Vl a0_22 x21.1.1.1 c0_22, Vi x21.1.1.2, Vi x21.1.2.1.1.1, Vl a2_22 x21.1.2.1.1.2 c2_22, Vl a4_22 x21.1.2.1.2 c4_22, Vl a6_22 x21.1.2.2 c6_22] tagg67 hb3 nn rfl)⟩, rfl, rfl, trivial⟩ ?_))))
     obtain rfl := some_inj h
     have hmr := hms.pick [some 1, some 2, some 3, some 4, none, some 10] [blk a0_22, blk a2_22, blk a4_22, blk a6_22, blk none, M] rfl
     have hsu := pick_sub (ls := [[b28], blk a0_22, blk a2_22, blk a4_22, blk a6_22, blk a8_22, [b18], [b3], blk a12_l10, blk a0_6, M]) [some 1, some 2, some 3, some 4, none, some 10] [blk a0_22, blk a2_22, blk a4_22, blk a6_22, blk none, M] rfl
     have hfe := hfr.pick [some 1, some 2, some 3, some 4, none] [blk a0_22, blk a2_22, blk a4_22, blk a6_22, blk none] rfl
     exact ⟨a0_22, c0_22, a2_22, c2_22, a4_22, c4_22, a6_22, c6_22, none, 0, rfl, hev, hmr, hfe, hf22_1.sub hsu, hf22_2.sub hsu, hf22_3.sub hsu, hf22_4.sub hsu, OwnS.nil _ _ _ _⟩
   refine c_sp (x_u 2 [(47, .bool (x21.2.2 == 14)), (46, .bool (x21.2.2 == 14))] (x_ek (c_if (x21.2.2 == 14) rfl h (fun h => ?_) (fun h => ?_))))
   · refine c_sp (x_u 2 [(48, Vi t26__s26_l10), (49, .bool (t26__s26_l10 == 0))] (x_ek (c_if (t26__s26_l10 == 0) rfl h (fun h => ?_) (fun h => ?_))))
     · refine c_plain (x_u 2 [(50, Vl a8_22 x21.2.1 c8_22), (9, Vl a8_22 x21.2.1 c8_22)] (x_end rfl (k_block (k_block (k_then ?_)))))
       refine c_plain (x_u 2 [(51, Vi (IntKind.i64.wrap (t26__s26_l10 + 1))), (26, Vi (IntKind.i64.wrap (t26__s26_l10 + 1)))] (x_end rfl ?_))
       obtain rfl := some_inj h
       have hpk := hms.pick [some 7, some 5, some 9, some 10] [[b3], blk a8_22, blk a0_6, M] rfl
       have hsu := pick_sub (ls := [[b28], blk a0_22, blk a2_22, blk a4_22, blk a6_22, blk a8_22, [b18], [b3], blk a12_l10, blk a0_6, M]) [some 7, some 5, some 9, some 10] [[b3], blk a8_22, blk a0_6, M] rfl
       replace hs_p0 := hs_p0.sub hsu
       replace hs_p1 := hs_p1.sub hsu
       replace hf22_5 := hf22_5.sub hsu
       replace hf6_1 := hf6_1.sub hsu
       replace hms := hpk
       replace hfr := hfr.pick [some 7, some 5, some 9] [[b3], blk a8_22, blk a0_6] rfl
       clear hpk hsu
       exact k_then ⟨(m10, x21.2.1, IntKind.i64.wrap (t26__s26_l10 + 1), a8_22, c8_22), ⟨rfl, rfl, rfl, rfl, rfl, rfl, rfl, trivial⟩, ⟨hn10, hev, hms, hfr, hs_p0, hs_p1, hb3, hf22_5, hf6_1⟩, Nat.lt_succ_self _⟩
     refine c_skip (k_block (k_block (k_then (c_plain (x_u 2 [(51, Vi (IntKind.i64.wrap (t26__s26_l10 + 1))), (26, Vi (IntKind.i64.wrap (t26__s26_l10 + 1)))] ?_)))))
     refine x_end rfl ?_
     obtain rfl := some_inj h
     have hpk := hms.pick [some 7, some 8, some 9, some 10] [[b3], blk a12_l10, blk a0_6, M] rfl
     have hsu := pick_sub (ls := [[b28], blk a0_22, blk a2_22, blk a4_22, blk a6_22, blk a8_22, [b18], [b3], blk a12_l10, blk a0_6, M]) [some 7, some 8, some 9, some 10] [[b3], blk a12_l10, blk a0_6, M] rfl
     replace hs_p0 := hs_p0.sub hsu
     replace hs_p1 := hs_p1.sub hsu
     replace hj12_l10 := hj12_l10.sub hsu
     replace hf6_1 := hf6_1.sub hsu
     replace hms := hpk
     replace hfr := hfr.pick [some 7, some 8, some 9] [[b3], blk a12_l10, blk a0_6] rfl
     clear hpk hsu
     exact k_then ⟨(m10, d12_l10, IntKind.i64.wrap (t26__s26_l10 + 1), a12_l10, c12_l10), ⟨rfl, rfl, rfl, rfl, rfl, rfl, rfl, trivial⟩, ⟨hn10, hev, hms, hfr, hs_p0, hs_p1, hb3, hj12_l10, hf6_1⟩, Nat.lt_succ_self _⟩
   refine c_sp (x_build (vs := []) (.agg #[.slice none 0 0, Vi 0, Vi 0, .slice none 0 0, .slice none 0 0, .slice none 0 0]) rfl rfl rfl (fun _ _ => by kernel_rfl) ?_)
   refine x_u 1 [(42, Vi x21.2.2)] ?_
   obtain ⟨w32, hr32, hb32, he32⟩ := store_boxagg 0 [.slice none 0 0, Vi 0, Vi 0, .slice none 0 0, .slice none 0 0, .slice none 0 0] #[.slice none 0 0, Vi 0, Vi 0, .slice none 0 0, .slice none 0 0, .slice none 0 0] tagg67 hb3 rfl rfl rfl
   refine x_store w32 (xv := Vp b3 0) (yv := .agg #[.slice none 0 0, Vi 0, Vi 0, .slice none 0 0, .slice none 0 0, .slice none 0 0]) rfl rfl rfl rfl hr32 (inl1 ?_)
   have hst := Stp.ev' (ls := [[b28], blk a0_22, blk a2_22, blk a4_22, blk a6_22, blk a8_22, [b18], [b3], blk a12_l10, blk a0_6, M]) he32 (mem_flat 7 rfl)
   replace hms := hms.ev he32
   replace hev := hev.then he32 (fun b hb => .inr (hfr.at 7 rfl b hb))
   replace hb3 := hb32
   refine x_u 2 [(5, .slice none 0 0), (6, Vi x21.2.2)] (x_ek (c_ret (k_block_ret (k_block_ret (k_then_ret ?_)))))
   obtain rfl := some_inj h
   have hy := some_inj hn10
   subst hy
   have hst := Stp.push (ls := [[b28], blk a0_22, blk a2_22, blk a4_22, blk a6_22, blk a8_22, [b18], [b3], blk a12_l10, blk a0_6, M]) (l := blk none) (Ev.refl [] w32) (fun _ h => by cases h) (fun _ h => by cases h)
   replace hb3 := (Ev.refl [] _).box hb3 nn
   replace hms := hms.push (l := blk none) (Ev.refl [] _) (fun _ h => by cases h)
   replace hfr := hfr.push (l := blk none) (fun _ h => by cases h)
   have ho33 := OwnS.nil (eIt4) 76 w32 (fl [blk none, [b28], blk a0_22, blk a2_22, blk a4_22, blk a6_22, blk a8_22, [b18], [b3], blk a12_l10, blk a0_6, M])
   have hst := Stp.push (ls := [blk none, [b28], blk a0_22, blk a2_22, blk a4_22, blk a6_22, blk a8_22, [b18], [b3], blk a12_l10, blk a0_6, M]) (l := blk none) (Ev.refl [] w32) (fun _ h => by cases h) (fun _ h => by cases h)
   replace hb3 := (Ev.refl [] _).box hb3 nn
   replace ho33 := ho33.step hst (Ev.refl [] _) nn2
   replace hms := hms.push (l := blk none) (Ev.refl [] _) (fun _ h => by cases h)
   replace hfr := hfr.push (l := blk none) (fun _ h => by cases h)
   have ho35 := OwnS.nil (eInt .i64) 3 w32 (fl [blk none, blk none, [b28], blk a0_22, blk a2_22, blk a4_22, blk a6_22, blk a8_22, [b18], [b3], blk a12_l10, blk a0_6, M])
   have hst := Stp.push (ls := [blk none, blk none, [b28], blk a0_22, blk a2_22, blk a4_22, blk a6_22, blk a8_22, [b18], [b3], blk a12_l10, blk a0_6, M]) (l := blk none) (Ev.refl [] w32) (fun _ h => by cases h) (fun _ h => by cases h)
   replace hb3 := (Ev.refl [] _).box hb3 nn
   replace ho33 := ho33.step hst (Ev.refl [] _) nn2
   replace ho35 := ho35.step hst (Ev.refl [] _) nn2
   replace hms := hms.push (l := blk none) (Ev.refl [] _) (fun _ h => by cases h)
   replace hfr := hfr.push (l := blk none) (fun _ h => by cases h)
   have ho37 := OwnS.nil (eInt .i64) 3 w32 (fl [blk none, blk none, blk none, [b28], blk a0_22, blk a2_22, blk a4_22, blk a6_22, blk a8_22, [b18], [b3], blk a12_l10, blk a0_6, M])
   have hst := Stp.push (ls := [blk none, blk none, blk none, [b28], blk a0_22, blk a2_22, blk a4_22, blk a6_22, blk a8_22, [b18], [b3], blk a12_l10, blk a0_6, M]) (l := blk none) (Ev.refl [] w32) (fun _ h => by cases h) (fun _ h => by cases h)
   replace hb3 := (Ev.refl [] _).box hb3 nn
   replace ho33 := ho33.step hst (Ev.refl [] _) nn2
   replace ho35 := ho35.step hst (Ev.refl [] _) nn2
   replace ho37 := ho37.step hst (Ev.refl [] _) nn2
   replace hms := hms.push (l := blk none) (Ev.refl [] _) (fun _ h => by cases h)
   replace hfr := hfr.push (l := blk none) (fun _ h => by cases h)
   have ho39 := OwnS.nil (eInt .i64) 3 w32 (fl [blk none, blk none, blk none, blk none, [b28], blk a0_22, blk a2_22, blk a4_22, blk a6_22, blk a8_22, [b18], [b3], blk a12_l10, blk a0_6, M])
   replace h := h10
   refine k_then_ret (k_block_ret (k_then_ret (r_ret (r_vals [.agg #[.slice none (([] : List (Int × Int × Int × Int))).length 0, Vi 0, Vi 0, .slice none (([] : List Int)).length 0, .slice none (([] : List Int)).length 0, .slice none (([] : List Int)).length 0], .slice none 0 0, Vi x21.2.2] ⟨⟨_, rfl, loadVar_of_reads (reads_boxagg (Mo := []) 0 [.slice none (([] : List (Int × Int × Int × Int))).length 0, Vi 0, Vi 0, .slice none (([] : List Int)).length 0, .slice none (([] : List Int)).length 0, .slice none (([] : List Int)).length 0] tagg67 hb3 nn rfl)⟩, rfl, rfl, trivial⟩ ?_))))
   obtain rfl := some_inj h
   have hmr := hms.pick [some 3, some 2, some 1, some 0, none, some 14] [blk none, blk none, blk none, blk none, blk none, M] rfl
   have hsu := pick_sub (ls := [blk none, blk none, blk none, blk none, [b28], blk a0_22, blk a2_22, blk a4_22, blk a6_22, blk a8_22, [b18], [b3], blk a12_l10, blk a0_6, M]) [some 3, some 2, some 1, some 0, none, some 14] [blk none, blk none, blk none, blk none, blk none, M] rfl
   have hfe := hfr.pick [some 3, some 2, some 1, some 0, none] [blk none, blk none, blk none, blk none, blk none] rfl
   exact ⟨none, 0, none, 0, none, 0, none, 0, none, 0, rfl, hev, hmr, hfe, ho33.sub hsu, ho35.sub hsu, ho37.sub hsu, ho39.sub hsu, OwnS.nil _ _ _ _⟩
 refine c_exit (k_then_exit ?_)
 obtain rfl := some_inj h
 have hy := some_inj hn10
 subst hy
 replace h := h10
 refine k_then_exit (k_block_in (k_then (c_nm [(4, Vp b3 0), (9, Vl a12_l10 d12_l10 c12_l10)] (fun J => ?_))))
 refine c_sp (x_build (vs := []) (.agg #[.slice none 0 0, Vi 0, Vi 0, .slice none 0 0, .slice none 0 0, .slice none 0 0]) rfl rfl rfl (fun _ _ => by kernel_rfl) ?_)
 refine x_u 1 [(53, Vl a12_l10 d12_l10 c12_l10)] ?_
 obtain ⟨w41, hr41, hb41, he41⟩ := store_boxagg 0 [.slice none 0 0, Vi 0, Vi 0, .slice none 0 0, .slice none 0 0, .slice none 0 0] #[.slice none 0 0, Vi 0, Vi 0, .slice none 0 0, .slice none 0 0, .slice none 0 0] tagg67 hb3 rfl rfl rfl
 refine x_store w41 (xv := Vp b3 0) (yv := .agg #[.slice none 0 0, Vi 0, Vi 0, .slice none 0 0, .slice none 0 0, .slice none 0 0]) rfl rfl rfl rfl hr41 (inl1 ?_)
 have hst := Stp.ev' (ls := [[b3], blk a12_l10, blk a0_6, M]) he41 (mem_flat 0 rfl)
 replace hj12_l10 := hj12_l10.step hst he41 (hms.apart 1 0 rfl rfl rfl)
 replace hms := hms.ev he41
 replace hev := hev.then he41 (fun b hb => .inr (hfr.at 0 rfl b hb))
 replace hb3 := hb41
 refine x_u 2 [(5, Vl a12_l10 d12_l10 c12_l10), (6, Vi 14)] (x_ek (c_ret (r_ret (r_vals [.agg #[.slice none 0 0, Vi 0, Vi 0, .slice none 0 0, .slice none 0 0, .slice none 0 0], Vl a12_l10 d12_l10 c12_l10, Vi 14] ⟨⟨_, rfl, loadVar_of_reads (reads_boxagg (Mo := []) 0 [.slice none 0 0, Vi 0, Vi 0, .slice none 0 0, .slice none 0 0, .slice none 0 0] tagg67 hb3 nn rfl)⟩, rfl, rfl, trivial⟩ ?_))))
 obtain rfl := some_inj h
 have hmr := hms.pick [none, none, none, none, some 1, some 3] [blk none, blk none, blk none, blk none, blk a12_l10, M] rfl
 have hsu := pick_sub (ls := [[b3], blk a12_l10, blk a0_6, M]) [none, none, none, none, some 1, some 3] [blk none, blk none, blk none, blk none, blk a12_l10, M] rfl
 have hfe := hfr.pick [none, none, none, none, some 1] [blk none, blk none, blk none, blk none, blk a12_l10] rfl
 exact ⟨none, 0, none, 0, none, 0, none, 0, a12_l10, c12_l10, rfl, hev, hmr, hfe, OwnS.nil _ _ _ _, OwnS.nil _ _ _ _, OwnS.nil _ _ _ _, OwnS.nil _ _ _ _, hj12_l10.sub hsu⟩
def planner_Check (p0_0_0 : List (Int × Int × Int × Int)) (p0_0_1 : Int) (p0_1_0_0 : Int) (p0_1_0_1 : List Int) (p0_1_1 : List Int) (p0_2 : List Int) (p1 : List Int) : Option Int :=
((certificate_Check p0_0_0 p0_0_1 p0_1_0_0 p0_1_0_1 p0_1_1).bind fun x9 =>
(if (x9 != 0) = true then
some x9
else
((rollin_Loads p0_0_0 p0_0_1 p0_1_0_0 p0_1_0_1).bind fun x11 =>
(if (x11.2 != 0) = true then
some x11.2
else
((assign_Fits x11.1 p1 p0_2).bind fun x15 =>
(if (!x15) = true then
some 14
else
some 0))))))
theorem planner_Check_w (a_p0_0_0 : Option Addr) (c_p0_0_0 : Nat) (p0_0_0 : List (Int × Int × Int × Int)) (p0_0_1 : Int) (p0_1_0_0 : Int) (a_p0_1_0_1 : Option Addr) (c_p0_1_0_1 : Nat) (p0_1_0_1 : List Int) (a_p0_1_1 : Option Addr) (c_p0_1_1 : Nat) (p0_1_1 : List Int) (a_p0_2 : Option Addr) (c_p0_2 : Nat) (p0_2 : List Int) (a_p1 : Option Addr) (c_p1 : Nat) (p1 : List Int) (r : Int) (w : World) (M : List Nat) (hms : MS w [M]) (hs_p0_0_0 : SlR (eIt4) w (fl [M]) a_p0_0_0 c_p0_0_0 p0_0_0) (hs_p0_1_0_1 : SlR (eInt .i64) w (fl [M]) a_p0_1_0_1 c_p0_1_0_1 p0_1_0_1) (hs_p0_1_1 : SlR (eInt .i64) w (fl [M]) a_p0_1_1 c_p0_1_1 p0_1_1) (hs_p0_2 : SlR (eInt .i64) w (fl [M]) a_p0_2 c_p0_2 p0_2) (hs_p1 : SlR (eInt .i64) w (fl [M]) a_p1 c_p1 p1) (h : planner_Check p0_0_0 p0_0_1 p0_1_0_0 p0_1_0_1 p0_1_1 p0_2 p1 = some r) : CallVC Tryz.prog 31 [.agg #[Vl a_p0_0_0 p0_0_0 c_p0_0_0, Vi p0_0_1, Vi p0_1_0_0, Vl a_p0_1_0_1 p0_1_0_1 c_p0_1_0_1, Vl a_p0_1_1 p0_1_1 c_p0_1_1, Vl a_p0_2 p0_2 c_p0_2], Vl a_p1 p1 c_p1] w fun v w' => v = Vi r ∧ Ev [] w w' := by
 refine calls_vc hmx Tryz.func31 (by kernel_rfl) rfl (rs := [.tmp 4]) rfl (by kernel_rfl) (args := [.agg #[Vl a_p0_0_0 p0_0_0 c_p0_0_0, Vi p0_0_1, Vi p0_1_0_0, Vl a_p0_1_0_1 p0_1_0_1 c_p0_1_0_1, Vl a_p0_1_1 p0_1_1 c_p0_1_1, Vl a_p0_2 p0_2 c_p0_2], Vl a_p1 p1 c_p1]) rfl ?_
 have hev : Ev [] w w := Ev.refl _ _
 refine c_sp (x_box (xv := .agg #[Vl a_p0_0_0 p0_0_0 c_p0_0_0, Vi p0_0_1, Vi p0_1_0_0, Vl a_p0_1_0_1 p0_1_0_1 c_p0_1_0_1, Vl a_p0_1_1 p0_1_1 c_p0_1_1, Vl a_p0_2 p0_2 c_p0_2]) rfl rfl rfl (fun b6 w6 hq6 hb6 he6 hz6 => ?_))
 replace hb6 : w6.heap[b6]? = some (.cells #[Vl a_p0_0_0 p0_0_0 c_p0_0_0, Vi p0_0_1, Vi p0_1_0_0, Vl a_p0_1_0_1 p0_1_0_1 c_p0_1_0_1, Vl a_p0_1_1 p0_1_1 c_p0_1_1, Vl a_p0_2 p0_2 c_p0_2] 67 (0, 0)) := hb6
 refine inl1 ?_
 have hst := Stp.box (ls := [M]) he6 hq6
 replace hs_p0_0_0 := hs_p0_0_0.step hst
 replace hs_p0_1_0_1 := hs_p0_1_0_1.step hst
 replace hs_p0_1_1 := hs_p0_1_1.step hst
 replace hs_p0_2 := hs_p0_2.step hst
 replace hs_p1 := hs_p1.step hst
 replace hms := hms.box he6 hq6 hb6
 replace hev := hev.ext he6
 refine x_u 1 [(4, Vi 0)] (x_ek (c_seq (c_sp (x_fieldAddr (xv := Vp b6 0) (Vp b6 0) rfl rfl rfl (reads_field tfld67_0 _ _) (x_load (xv := Vp b6 0) (.agg #[Vl a_p0_0_0 p0_0_0 c_p0_0_0, Vi p0_0_1]) rfl rfl rfl (reads_boxagg 0 [Vl a_p0_0_0 p0_0_0 c_p0_0_0, Vi p0_0_1] tagg50 hb6 nn rfl) ?_)))))
 refine x_fieldAddr (xv := Vp b6 0) (Vp b6 2) rfl rfl rfl (reads_field tfld67_1 _ _) (x_load (xv := Vp b6 2) (.agg #[Vi p0_1_0_0, Vl a_p0_1_0_1 p0_1_0_1 c_p0_1_0_1, Vl a_p0_1_1 p0_1_1 c_p0_1_1]) rfl rfl rfl (reads_boxagg 2 [Vi p0_1_0_0, Vl a_p0_1_0_1 p0_1_0_1 c_p0_1_0_1, Vl a_p0_1_1 p0_1_1 c_p0_1_1] tagg54 hb6 nn rfl) ?_)
 obtain ⟨x9, hx, h⟩ := bind_some h
 have hcall := certificate_Check_w a_p0_0_0 c_p0_0_0 p0_0_0 p0_0_1 p0_1_0_0 a_p0_1_0_1 c_p0_1_0_1 p0_1_0_1 a_p0_1_1 c_p0_1_1 p0_1_1 _ w6 (fl [[b6], M]) (MS.fold (P := []) hms) (hs_p0_0_0.sub fl1) (hs_p0_1_0_1.sub fl1) (hs_p0_1_1.sub fl1) hx
 refine x_call 58 #[] #[] [.agg #[Vl a_p0_0_0 p0_0_0 c_p0_0_0, Vi p0_0_1], .agg #[Vi p0_1_0_0, Vl a_p0_1_0_1 p0_1_0_1 c_p0_1_0_1, Vl a_p0_1_1 p0_1_1 c_p0_1_1]] _ rfl rfl rfl rfl hcall ?_
 rintro v w10 ⟨rfl, he10⟩
 clear hcall hx
 refine inl1 ?_
 have hst := Stp.ext (ls := [[b6], M]) he10
 replace hs_p0_0_0 := hs_p0_0_0.step hst
 replace hs_p0_1_0_1 := hs_p0_1_0_1.step hst
 replace hs_p0_2 := hs_p0_2.step hst
 replace hs_p1 := hs_p1.step hst
 replace hb6 := he10.box hb6 nn
 replace hms := hms.ev he10
 replace hev := hev.ext he10
 refine x_u 1 [(5, Vi x9)] (x_ek (c_sp (x_u 2 [(13, Vi x9), (14, .bool (x9 != 0))] (x_ek (c_if (x9 != 0) rfl h (fun h => ?_) (fun h => ?_))))))
 · refine c_sp (x_u 2 [(15, Vi x9), (4, Vi x9)] (x_ek (c_ret (k_then_ret (r_ret (r_vals [Vi x9] ⟨rfl, trivial⟩ ?_))))))
   obtain rfl := some_inj h
   exact ⟨rfl, hev⟩
 refine c_skip (k_then (c_sp (x_fieldAddr (xv := Vp b6 0) (Vp b6 0) rfl rfl rfl (reads_field tfld67_0 _ _) (x_load (xv := Vp b6 0) (.agg #[Vl a_p0_0_0 p0_0_0 c_p0_0_0, Vi p0_0_1]) rfl rfl rfl (reads_boxagg 0 [Vl a_p0_0_0 p0_0_0 c_p0_0_0, Vi p0_0_1] tagg50 hb6 nn rfl) (x_fieldAddr (xv := Vp b6 0) (Vp b6 2) rfl rfl rfl (reads_field tfld67_1 _ _) ?_)))))
 refine x_fieldAddr (xv := Vp b6 2) (Vp b6 2) rfl rfl rfl (reads_field tfld54_0 _ _) (x_load (xv := Vp b6 2) (.agg #[Vi p0_1_0_0, Vl a_p0_1_0_1 p0_1_0_1 c_p0_1_0_1]) rfl rfl rfl (reads_boxagg 2 [Vi p0_1_0_0, Vl a_p0_1_0_1 p0_1_0_1 c_p0_1_0_1] tagg52 hb6 nn rfl) ?_)
 obtain ⟨x11, hx, h⟩ := bind_some h
 have hcall := rollin_Loads_w a_p0_0_0 c_p0_0_0 p0_0_0 p0_0_1 p0_1_0_0 a_p0_1_0_1 c_p0_1_0_1 p0_1_0_1 _ w10 (fl [[b6], M]) (MS.fold (P := []) hms) (hs_p0_0_0.sub fl1) (hs_p0_1_0_1.sub fl1) hx
 refine x_call 39 #[] #[] [.agg #[Vl a_p0_0_0 p0_0_0 c_p0_0_0, Vi p0_0_1], .agg #[Vi p0_1_0_0, Vl a_p0_1_0_1 p0_1_0_1 c_p0_1_0_1]] _ rfl rfl rfl rfl hcall ?_
 rintro v w12 ⟨a0_12, c0_12, rfl, he12, hmn12, hfn12, hf12_1⟩
 clear hcall hx
 refine inl1 ?_
 have hst := Stp.call0 [[b6], M] [blk a0_12] [blk a0_12, [b6], M] he12 hfn12 rfl
 replace hs_p0_2 := hs_p0_2.step hst
 replace hs_p1 := hs_p1.step hst
 replace hb6 := he12.box hb6 nn
 replace hms := MS.call0 [blk a0_12] [blk a0_12, [b6], M] hms he12 hmn12 hfn12 rfl
 replace hev := hev.ext he12
 replace hf12_1 := OwnS.plain (M' := fl [blk a0_12, [b6], M]) (plain_int _) hf12_1
 clear hst
 have hpk := hms.pick [some 1, some 2] [[b6], M] rfl
 have hsu := pick_sub (ls := [blk a0_12, [b6], M]) [some 1, some 2] [[b6], M] rfl
 replace hs_p0_2 := hs_p0_2.sub hsu
 replace hs_p1 := hs_p1.sub hsu
 replace hf12_1 := hf12_1.ro hsu (pick_out hms 0 rfl [some 1, some 2] [[b6], M] rfl rfl)
 replace hms := hpk
 clear hpk hsu
 refine x_u 5 [(16, .tuple #[Vl a0_12 x11.1 c0_12, Vi x11.2]), (23, Vl a0_12 x11.1 c0_12), (24, Vi x11.2), (6, Vl a0_12 x11.1 c0_12), (7, Vi x11.2)] (x_ek (c_nm [(1, Vl a_p1 p1 c_p1), (2, Vp b6 0), (6, Vl a0_12 x11.1 c0_12), (7, Vi x11.2)] (fun J => ?_)))
 refine c_seq (c_sp (x_u 2 [(25, Vi x11.2), (26, .bool (x11.2 != 0))] (x_ek (c_if (x11.2 != 0) rfl h (fun h => ?_) (fun h => ?_)))))
 · refine c_sp (x_u 2 [(27, Vi x11.2), (4, Vi x11.2)] (x_ek (c_ret (k_then_ret (r_ret (r_vals [Vi x11.2] ⟨rfl, trivial⟩ ?_))))))
   obtain rfl := some_inj h
   exact ⟨rfl, hev⟩
 refine c_skip (k_then (c_seq (c_sp (x_u 2 [(28, Vl a0_12 x11.1 c0_12), (29, Vl a_p1 p1 c_p1)] (x_fieldAddr (xv := Vp b6 0) (Vp b6 5) rfl rfl rfl (reads_field tfld67_2 _ _) ?_)))))
 refine x_load (xv := Vp b6 5) (Vl a_p0_2 p0_2 c_p0_2) rfl rfl rfl (reads_box tcell22 hb6 nn 5 _ rfl) ?_
 obtain ⟨x15, hx, h⟩ := bind_some h
 have hcall := assign_Fits_w a0_12 c0_12 x11.1 a_p1 c_p1 p1 a_p0_2 c_p0_2 p0_2 _ w12 (fl [[b6], M]) (MS.fold (P := []) hms) (hf12_1.sub fl1) (hs_p1.sub fl1) (hs_p0_2.sub fl1) hx
 refine x_call 59 #[] #[] [Vl a0_12 x11.1 c0_12, Vl a_p1 p1 c_p1, Vl a_p0_2 p0_2 c_p0_2] _ rfl rfl rfl rfl hcall ?_
 rintro v w16 ⟨rfl, he16⟩
 clear hcall hx
 refine inl1 ?_
 replace hev := hev.ext he16
 refine x_u 1 [(33, .bool (!x15))] (x_ek (c_if (!x15) rfl h (fun h => ?_) (fun h => ?_)))
 · refine c_sp (x_u 1 [(4, Vi 14)] (x_ek (c_ret (k_then_ret (r_ret (r_vals [Vi 14] ⟨rfl, trivial⟩ ?_))))))
   obtain rfl := some_inj h
   exact ⟨rfl, hev⟩
 refine c_skip (k_then (c_sp (x_u 1 [(4, Vi 0)] (x_ek (c_ret ?_)))))
 refine r_ret (r_vals [Vi 0] ⟨rfl, trivial⟩ ?_)
 obtain rfl := some_inj h
 exact ⟨rfl, hev⟩
def planner_find_L2 (p0 : List (List (List UInt8))) (p1 : List UInt8) (s : Int) : Option (Step Int ((Int × Int) ⊕ Unit)) :=
match s with
| t12__s12_l2 =>
(if (decide (t12__s12_l2 < ((p0).length : Int))) = true then
((idx p0 t12__s12_l2).bind fun x4 =>
((slices_Index_string_string_ x4 p1).bind fun x11 =>
(if (decide (x11 ≥ 0)) = true then
some (.done (.inl (t12__s12_l2, x11)))
else
some (.next (IntKind.i64.wrap (t12__s12_l2 + 1))))))
else
some (.done (.inr ())))
def planner_find (p0 : List (List (List UInt8))) (p1 : List UInt8) : Option (Int × Int × Bool) :=
((loop (planner_find_L2 p0 p1) 0).bind fun d => match d with
| (.inl (train_s4_x200, block_s5_x200)) => some (train_s4_x200, block_s5_x200, true)
| (.inr _) => some (0, 0, false))
theorem planner_find_w (a_p0 : Option Addr) (c_p0 : Nat) (p0 : List (List (List UInt8))) (p1 : List UInt8) (r : Int × Int × Bool) (w : World) (M : List Nat) (hms : MS w [M]) (hs_p0 : SlR (eSl eStr) w (fl [M]) a_p0 c_p0 p0) (h : planner_find p0 p1 = some r) : CallVC Tryz.prog 44 [Vl a_p0 p0 c_p0, Vs p1] w fun v w' => v = .tuple #[Vi r.1, Vi r.2.1, .bool r.2.2] ∧ Ev [] w w' := by
 refine calls_vc hmx Tryz.func44 (by kernel_rfl) rfl (rs := [.tmp 4, .tmp 5, .tmp 6]) rfl (by kernel_rfl) (args := [Vl a_p0 p0 c_p0, Vs p1]) rfl ?_
 have hev : Ev [] w w := Ev.refl _ _
 have hfr : FR w.heap.size [] := FR.nil _
 refine c_sp (x_u 3 [(4, Vi 0), (5, Vi 0), (6, .bool false)] (x_ek (c_seq (c_sp (x_u 1 [(10, Vl a_p0 p0 c_p0)] ?_)))))
 refine x_len (vs := [Vl a_p0 p0 c_p0]) (Vi ((p0).length : Int)) rfl rfl rfl (reads_len tsl23 _ _ _ _ _) (x_u 1 [(12, Vi 0)] (x_ek (c_block ?_)))
 obtain ⟨d2, hd2, h2⟩ := bind_some h
 obtain ⟨m2, hd2⟩ := loop_some hd2
 refine c_loop (loop_rule hmx (σ := Nat × Int) (fun s => match s with | (_, t12__s12_l2) => [(1, Vs p1), (10, Vl a_p0 p0 c_p0), (11, Vi ((p0).length : Int)), (12, Vi t12__s12_l2)]) (fun s w' => match s with | (m, t12__s12_l2) => loopN (planner_find_L2 p0 p1) m t12__s12_l2 = some d2 ∧ Ev [] w w' ∧ MS w' [M] ∧ FR w.heap.size [] ∧ SlR (eSl eStr) w' (fl [M]) a_p0 c_p0 p0) (fun s => s.1) (m2, 0) ⟨rfl, rfl, rfl, rfl, trivial⟩ ⟨hd2, hev, hms, hfr, hs_p0⟩ ?_)
 rintro ⟨m2, t12__s12_l2⟩ J wl2 ⟨hn2, hev, hms, hfr, hs_p0⟩
 rcases m2 with _ | m2
 · exact (loopN_zero hn2).elim
 obtain ⟨t2, h, hn2⟩ := bind_some hn2
 refine c_sp (x_u 1 [(13, .bool (decide (t12__s12_l2 < ((p0).length : Int))))] (x_ek (c_nm [(1, Vs p1), (10, Vl a_p0 p0 c_p0), (11, Vi ((p0).length : Int)), (12, Vi t12__s12_l2), (13, .bool (decide (t12__s12_l2 < ((p0).length : Int))))] (fun J => ?_))))
 refine c_seq (c_if (decide (t12__s12_l2 < ((p0).length : Int))) rfl h (fun h => ?_) (fun h => ?_))
 · refine c_skip (k_then (c_seq (c_block (c_sp (x_u 1 [(14, Vi t12__s12_l2)] ?_)))))
   obtain ⟨x4, hx4, h⟩ := bind_some h
   obtain ⟨ad4, cs4, hr4, hc4, hR⟩ := reads_index (Mo := []) tsl23 hs_p0 hx4
   obtain ⟨a5, c5, rfl, hs5⟩ := hR
   refine x_indexAddr (xv := Vl a_p0 p0 c_p0) (yv := Vi t12__s12_l2) (.pointer (some ad4)) rfl rfl rfl rfl hr4 (x_load (xv := .pointer (some ad4)) (.agg #[Vl a5 x4 c5]) rfl rfl rfl (reads_agg tagg31 hc4 (fun _ h => by cases h)) ?_)
   refine x_alloc (z := .agg #[.slice none 0 0]) rfl rfl (by kernel_rfl) (fun b8 w8 hq8 hb8 he8 hz8 => ?_)
   replace hb8 : w8.heap[b8]? = some (.cells #[.slice none 0 0] 31 (0, 0)) := hb8
   refine inl1 ?_
   have hst := Stp.box (ls := [M]) he8 hq8
   replace hs_p0 := hs_p0.step hst
   replace hs5 := hs5.step hst
   replace hms := hms.box he8 hq8 hb8
   replace hfr := hfr.box hev.size hq8
   replace hev := hev.ext he8
   refine x_u 1 [(7, Vi t12__s12_l2)] ?_
   obtain ⟨w10, hr10, hb10, he10⟩ := store_boxagg 0 [Vl a5 x4 c5] #[Vl a5 x4 c5] tagg31 hb8 rfl rfl rfl
   refine x_store w10 (xv := Vp b8 0) (yv := .agg #[Vl a5 x4 c5]) rfl rfl rfl rfl hr10 (inl1 ?_)
   have hst := Stp.ev' (ls := [[b8], M]) he10 (mem_flat 0 rfl)
   replace hs_p0 := hs_p0.step hst
   replace hs5 := hs5.step hst
   replace hms := hms.ev he10
   replace hev := hev.then he10 (fun b hb => .inr (hfr.at 0 rfl b hb))
   replace hb8 := hb10
   refine x_ek (c_sp (x_fieldAddr (xv := Vp b8 0) (Vp b8 0) rfl rfl rfl (reads_field tfld31_0 _ _) (x_load (xv := Vp b8 0) (Vl a5 x4 c5) rfl rfl rfl (reads_box tcell29 hb8 nn 0 _ rfl) (x_u 1 [(19, Vs p1)] ?_))))
   obtain ⟨x11, hx, h⟩ := bind_some h
   have hcall := slices_Index_string_string__w a5 c5 x4 p1 _ w10 (fl [[b8], M]) (MS.fold (P := []) hms) (hs5.sub fl1) hx
   refine x_call 75 #[] #[] [Vl a5 x4 c5, Vs p1] _ rfl rfl rfl rfl hcall ?_
   rintro v w12 ⟨rfl, he12⟩
   clear hcall hx
   refine inl1 ?_
   have hst := Stp.ext (ls := [[b8], M]) he12
   replace hs_p0 := hs_p0.step hst
   replace hms := hms.ev he12
   replace hev := hev.ext he12
   refine x_u 1 [(9, Vi x11)] (x_ek (c_sp (x_u 2 [(21, Vi x11), (22, .bool (decide (x11 ≥ 0)))] (x_ek (c_if (decide (x11 ≥ 0)) rfl h (fun h => ?_) (fun h => ?_))))))
   · refine c_sp (x_u 5 [(23, Vi t12__s12_l2), (24, Vi x11), (4, Vi t12__s12_l2), (5, Vi x11), (6, .bool true)] (x_ek (c_nm [(4, Vi t12__s12_l2), (5, Vi x11), (6, .bool true)] (fun J => ?_))))
     refine c_ret (k_block_ret (k_then_ret ?_))
     obtain rfl := some_inj h
     have hy := some_inj hn2
     subst hy
     replace h := h2
     refine k_then_ret (k_block_ret (k_then_ret (r_ret (r_vals [Vi t12__s12_l2, Vi x11, .bool true] ⟨rfl, rfl, rfl, trivial⟩ ?_))))
     obtain rfl := some_inj h
     exact ⟨rfl, hev⟩
   refine c_skip (k_block (k_then (c_nm [(1, Vs p1), (10, Vl a_p0 p0 c_p0), (11, Vi ((p0).length : Int)), (12, Vi t12__s12_l2)] (fun J => ?_))))
   refine c_plain (x_u 2 [(25, Vi (IntKind.i64.wrap (t12__s12_l2 + 1))), (12, Vi (IntKind.i64.wrap (t12__s12_l2 + 1)))] (x_end rfl ?_))
   obtain rfl := some_inj h
   have hpk := hms.pick [some 1] [M] rfl
   have hsu := pick_sub (ls := [[b8], M]) [some 1] [M] rfl
   replace hs_p0 := hs_p0.sub hsu
   replace hms := hpk
   replace hfr := hfr.pick [] [] rfl
   clear hpk hsu
   exact k_then ⟨(m2, IntKind.i64.wrap (t12__s12_l2 + 1)), ⟨rfl, rfl, rfl, rfl, trivial⟩, ⟨hn2, hev, hms, hfr, hs_p0⟩, Nat.lt_succ_self _⟩
 refine c_exit (k_then_exit ?_)
 obtain rfl := some_inj h
 have hy := some_inj hn2
 subst hy
 replace h := h2
 refine k_then_exit (k_block_in (k_then (c_norm [] trivial (fun J => ?_))))
 refine c_sp (x_u 3 [(4, Vi 0), (5, Vi 0), (6, .bool false)] (x_ek (c_ret (r_ret (r_vals [Vi 0, Vi 0, .bool false] ⟨rfl, rfl, rfl, trivial⟩ ?_)))))
 obtain rfl := some_inj h
 exact ⟨rfl, hev⟩
def planner_Items_L14 (p0 : List (List (List UInt8))) (p1 : List ((List UInt8) × Int × Int × Int × Int × Int × Bool × (List UInt8))) (s : (List (Int × Int × Int × Int)) × Int) : Option (Step ((List (Int × Int × Int × Int)) × Int) (Int ⊕ (List (Int × Int × Int × Int)))) :=
match s with
| (d16_l14, t36__s36_l14) =>
(if (decide (t36__s36_l14 < ((p1).length : Int))) = true then
((idx p1 t36__s36_l14).bind fun x18 =>
((consist_Valid x18.1 x18.2.1 x18.2.2.1 x18.2.2.2.1 x18.2.2.2.2.1 x18.2.2.2.2.2.1 x18.2.2.2.2.2.2.1 x18.2.2.2.2.2.2.2).bind fun x24 =>
(if (x24 != 0) = true then
some (.done (.inl x24))
else
((planner_find p0 x18.2.2.2.2.2.2.2).bind fun x26 =>
(if (!x26.2.2) = true then
some (.done (.inl 13))
else
(if d16_l14.length + ([(x26.1, x26.2.1, 0, x18.2.1)] : List (Int × Int × Int × Int)).length ≤ 4294967296 then
some (.next ((d16_l14 ++ ([(x26.1, x26.2.1, 0, x18.2.1)] : List (Int × Int × Int × Int))), IntKind.i64.wrap (t36__s36_l14 + 1)))
else none))))))
else
some (.done (.inr d16_l14)))
def planner_Items_L5 (p0 : List (List (List UInt8))) (s : Int) : Option (Step Int (Unit ⊕ Unit)) :=
match s with
| t25__s25_l5 =>
(if (decide (t25__s25_l5 < ((p0).length : Int))) = true then
((idx p0 t25__s25_l5).bind fun x7 =>
(if (decide (((x7).length : Int) > 32)) = true then
some (.done (.inl ()))
else
some (.next (IntKind.i64.wrap (t25__s25_l5 + 1)))))
else
some (.done (.inr ())))
def planner_Items (p0 : List (List (List UInt8))) (p1 : List ((List UInt8) × Int × Int × Int × Int × Int × Bool × (List UInt8))) : Option ((List (Int × Int × Int × Int)) × Int) :=
(if (decide (((p0).length : Int) > 16)) = true then
some ([], 3)
else
(if (decide (((p1).length : Int) > 96)) = true then
some ([], 3)
else
((loop (planner_Items_L5 p0) 0).bind fun d => match d with
| (.inl _) => some ([], 3)
| (.inr _) => ((loop (planner_Items_L14 p0 p1) (([] : List (Int × Int × Int × Int)), 0)).bind fun d => match d with
| (.inl t5__s5_x1400) => some ([], t5__s5_x1400)
| (.inr d16_x1401) => some (d16_x1401, 0)))))
theorem planner_Items_w (a_p0 : Option Addr) (c_p0 : Nat) (p0 : List (List (List UInt8))) (a_p1 : Option Addr) (c_p1 : Nat) (p1 : List ((List UInt8) × Int × Int × Int × Int × Int × Bool × (List UInt8))) (r : (List (Int × Int × Int × Int)) × Int) (w : World) (M : List Nat) (hms : MS w [M]) (hs_p0 : SlR (eSl eStr) w (fl [M]) a_p0 c_p0 p0) (hs_p1 : SlR (eProd eStr (eProd (eInt .i64) (eProd (eInt .i64) (eProd (eInt .i64) (eProd (eInt .i64) (eProd (eInt .i64) (eProd eBool eStr))))))) w (fl [M]) a_p1 c_p1 p1) (h : planner_Items p0 p1 = some r) : CallVC Tryz.prog 15 [Vl a_p0 p0 c_p0, Vl a_p1 p1 c_p1] w fun v w' => ∃ (a0' : Option Addr), ∃ (c0' : Nat), v = .tuple #[Vl a0' r.1 c0', Vi r.2] ∧ Ev [] w w' ∧ MS w' [blk a0', M] ∧ FR w.heap.size [blk a0'] ∧ OwnS (eIt4) 76 w' (fl [blk a0', M]) a0' c0' r.1 := by
 refine calls_vc hmx Tryz.func15 (by kernel_rfl) rfl (rs := [.tmp 4, .tmp 5]) rfl (by kernel_rfl) (args := [Vl a_p0 p0 c_p0, Vl a_p1 p1 c_p1]) rfl ?_
 have hev : Ev [] w w := Ev.refl _ _
 have hfr : FR w.heap.size [] := FR.nil _
 refine c_sp (x_u 2 [(4, .slice none 0 0), (5, Vi 0)] (x_ek (c_seq (c_sp (x_u 1 [(15, Vl a_p0 p0 c_p0)] ?_)))))
 refine x_len (vs := [Vl a_p0 p0 c_p0]) (Vi ((p0).length : Int)) rfl rfl rfl (reads_len tsl23 _ _ _ _ _) (x_u 2 [(17, .bool (decide (((p0).length : Int) > 16))), (18, .bool (decide (((p0).length : Int) > 16)))] (x_if 18 (decide (((p0).length : Int) > 16)) rfl h (fun h => ?_) (fun h => ?_)))
 · refine x_u 4 [(19, undef), (20, undef), (21, undef), (22, .bool true)] (x_ek (c_true rfl (c_sp (x_u 2 [(4, .slice none 0 0), (5, Vi 3)] (x_ek ?_)))))
   refine c_ret (k_then_ret (r_ret (r_vals [.slice none 0 0, Vi 3] ⟨rfl, rfl, trivial⟩ ?_)))
   obtain rfl := some_inj h
   have hmr := hms.pick [none, some 0] [blk none, M] rfl
   have hfe := hfr.pick [none] [blk none] rfl
   exact ⟨none, 0, rfl, hev, hmr, hfe, OwnS.nil _ _ _ _⟩
 refine x_u 1 [(19, Vl a_p1 p1 c_p1)] (x_len (vs := [Vl a_p1 p1 c_p1]) (Vi ((p1).length : Int)) rfl rfl rfl (reads_len tsl24 _ _ _ _ _) (x_u 2 [(21, .bool (decide (((p1).length : Int) > 96))), (22, .bool (decide (((p1).length : Int) > 96)))] (x_ek (c_if (decide (((p1).length : Int) > 96)) rfl h (fun h => ?_) (fun h => ?_)))))
 · refine c_sp (x_u 2 [(4, .slice none 0 0), (5, Vi 3)] (x_ek (c_nm [(4, .slice none 0 0), (5, Vi 3)] (fun J => ?_))))
   refine c_ret (k_then_ret (r_ret (r_vals [.slice none 0 0, Vi 3] ⟨rfl, rfl, trivial⟩ ?_)))
   obtain rfl := some_inj h
   have hmr := hms.pick [none, some 0] [blk none, M] rfl
   have hfe := hfr.pick [none] [blk none] rfl
   exact ⟨none, 0, rfl, hev, hmr, hfe, OwnS.nil _ _ _ _⟩
 refine c_skip (k_then (c_seq (c_sp (x_u 1 [(23, Vl a_p0 p0 c_p0)] (x_len (vs := [Vl a_p0 p0 c_p0]) (Vi ((p0).length : Int)) rfl rfl rfl (reads_len tsl23 _ _ _ _ _) ?_)))))
 refine x_u 1 [(25, Vi 0)] (x_ek (c_nm [(0, Vl a_p0 p0 c_p0), (1, Vl a_p1 p1 c_p1), (23, Vl a_p0 p0 c_p0), (24, Vi ((p0).length : Int)), (25, Vi 0)] (fun J => ?_)))
 refine c_block ?_
 obtain ⟨d5, hd5, h5⟩ := bind_some h
 obtain ⟨m5, hd5⟩ := loop_some hd5
 refine c_loop (loop_rule hmx (σ := Nat × Int) (fun s => match s with | (_, t25__s25_l5) => [(0, Vl a_p0 p0 c_p0), (1, Vl a_p1 p1 c_p1), (23, Vl a_p0 p0 c_p0), (24, Vi ((p0).length : Int)), (25, Vi t25__s25_l5)]) (fun s w' => match s with | (m, t25__s25_l5) => loopN (planner_Items_L5 p0) m t25__s25_l5 = some d5 ∧ Ev [] w w' ∧ MS w' [M] ∧ FR w.heap.size [] ∧ SlR (eSl eStr) w' (fl [M]) a_p0 c_p0 p0 ∧ SlR (eProd eStr (eProd (eInt .i64) (eProd (eInt .i64) (eProd (eInt .i64) (eProd (eInt .i64) (eProd (eInt .i64) (eProd eBool eStr))))))) w' (fl [M]) a_p1 c_p1 p1) (fun s => s.1) (m5, 0) ⟨rfl, rfl, rfl, rfl, rfl, trivial⟩ ⟨hd5, hev, hms, hfr, hs_p0, hs_p1⟩ ?_)
 rintro ⟨m5, t25__s25_l5⟩ J wl5 ⟨hn5, hev, hms, hfr, hs_p0, hs_p1⟩
 rcases m5 with _ | m5
 · exact (loopN_zero hn5).elim
 obtain ⟨t5, h, hn5⟩ := bind_some hn5
 refine c_sp (x_u 1 [(26, .bool (decide (t25__s25_l5 < ((p0).length : Int))))] (x_ek (c_nm [(0, Vl a_p0 p0 c_p0), (1, Vl a_p1 p1 c_p1), (23, Vl a_p0 p0 c_p0), (24, Vi ((p0).length : Int)), (25, Vi t25__s25_l5), (26, .bool (decide (t25__s25_l5 < ((p0).length : Int))))] (fun J => ?_))))
 refine c_seq (c_if (decide (t25__s25_l5 < ((p0).length : Int))) rfl h (fun h => ?_) (fun h => ?_))
 · refine c_skip (k_then (c_seq (c_block (c_sp ?_))))
   obtain ⟨x7, hx7, h⟩ := bind_some h
   obtain ⟨ad7, cs7, hr7, hc7, hR⟩ := reads_index (Mo := []) tsl23 hs_p0 hx7
   obtain ⟨a8, c8, rfl, hs8⟩ := hR
   refine x_indexAddr (xv := Vl a_p0 p0 c_p0) (yv := Vi t25__s25_l5) (.pointer (some ad7)) rfl rfl rfl rfl hr7 (x_load (xv := .pointer (some ad7)) (.agg #[Vl a8 x7 c8]) rfl rfl rfl (reads_agg tagg31 hc7 (fun _ h => by cases h)) ?_)
   refine x_alloc (z := .agg #[.slice none 0 0]) rfl rfl (by kernel_rfl) (fun b11 w11 hq11 hb11 he11 hz11 => ?_)
   replace hb11 : w11.heap[b11]? = some (.cells #[.slice none 0 0] 31 (0, 0)) := hb11
   refine inl1 ?_
   have hst := Stp.box (ls := [M]) he11 hq11
   replace hs_p0 := hs_p0.step hst
   replace hs_p1 := hs_p1.step hst
   replace hms := hms.box he11 hq11 hb11
   replace hfr := hfr.box hev.size hq11
   replace hev := hev.ext he11
   obtain ⟨w13, hr13, hb13, he13⟩ := store_boxagg 0 [Vl a8 x7 c8] #[Vl a8 x7 c8] tagg31 hb11 rfl rfl rfl
   refine x_store w13 (xv := Vp b11 0) (yv := .agg #[Vl a8 x7 c8]) rfl rfl rfl rfl hr13 (inl1 ?_)
   have hst := Stp.ev' (ls := [[b11], M]) he13 (mem_flat 0 rfl)
   replace hs_p0 := hs_p0.step hst
   replace hs_p1 := hs_p1.step hst
   replace hms := hms.ev he13
   replace hev := hev.then he13 (fun b hb => .inr (hfr.at 0 rfl b hb))
   replace hb11 := hb13
   refine x_ek (c_sp (x_fieldAddr (xv := Vp b11 0) (Vp b11 0) rfl rfl rfl (reads_field tfld31_0 _ _) (x_load (xv := Vp b11 0) (Vl a8 x7 c8) rfl rfl rfl (reads_box tcell29 hb11 nn 0 _ rfl) (x_len (vs := [Vl a8 x7 c8]) (Vi ((x7).length : Int)) rfl rfl rfl (reads_len tsl29 _ _ _ _ _) (x_u 1 [(32, .bool (decide (((x7).length : Int) > 32)))] ?_)))))
   refine x_ek (c_if (decide (((x7).length : Int) > 32)) rfl h (fun h => ?_) (fun h => ?_))
   · refine c_sp (x_u 2 [(4, .slice none 0 0), (5, Vi 3)] (x_ek (c_ret (k_block_ret (k_then_ret ?_)))))
     obtain rfl := some_inj h
     have hy := some_inj hn5
     subst hy
     replace h := h5
     refine k_then_ret (k_block_ret (k_then_ret (r_ret (r_vals [.slice none 0 0, Vi 3] ⟨rfl, rfl, trivial⟩ ?_))))
     obtain rfl := some_inj h
     have hmr := hms.pick [none, some 1] [blk none, M] rfl
     have hfe := hfr.pick [none] [blk none] rfl
     exact ⟨none, 0, rfl, hev, hmr, hfe, OwnS.nil _ _ _ _⟩
   refine c_skip (k_block (k_then (c_plain (x_u 2 [(33, Vi (IntKind.i64.wrap (t25__s25_l5 + 1))), (25, Vi (IntKind.i64.wrap (t25__s25_l5 + 1)))] (x_end rfl ?_)))))
   obtain rfl := some_inj h
   have hpk := hms.pick [some 1] [M] rfl
   have hsu := pick_sub (ls := [[b11], M]) [some 1] [M] rfl
   replace hs_p0 := hs_p0.sub hsu
   replace hs_p1 := hs_p1.sub hsu
   replace hms := hpk
   replace hfr := hfr.pick [] [] rfl
   clear hpk hsu
   exact k_then ⟨(m5, IntKind.i64.wrap (t25__s25_l5 + 1)), ⟨rfl, rfl, rfl, rfl, rfl, trivial⟩, ⟨hn5, hev, hms, hfr, hs_p0, hs_p1⟩, Nat.lt_succ_self _⟩
 refine c_exit (k_then_exit ?_)
 obtain rfl := some_inj h
 have hy := some_inj hn5
 subst hy
 replace h := h5
 refine k_then_exit (k_block_in (k_then (c_nm [(0, Vl a_p0 p0 c_p0), (1, Vl a_p1 p1 c_p1)] (fun J => ?_))))
 refine c_sp (x_u 1 [(8, .slice none 0 0)] (x_ek (c_seq (c_sp (x_u 1 [(34, Vl a_p1 p1 c_p1)] ?_)))))
 refine x_len (vs := [Vl a_p1 p1 c_p1]) (Vi ((p1).length : Int)) rfl rfl rfl (reads_len tsl24 _ _ _ _ _) (x_u 1 [(36, Vi 0)] (x_ek (c_block ?_)))
 have hst := Stp.push (ls := [M]) (l := blk none) (Ev.refl [] wl5) (fun _ h => by cases h) (fun _ h => by cases h)
 replace hs_p0 := hs_p0.step hst
 replace hs_p1 := hs_p1.step hst
 replace hms := hms.push (l := blk none) (Ev.refl [] _) (fun _ h => by cases h)
 replace hfr := hfr.push (l := blk none) (fun _ h => by cases h)
 have ho15 := OwnS.nil (eIt4) 76 wl5 (fl [blk none, M])
 obtain ⟨d14, hd14, h14⟩ := bind_some h
 obtain ⟨m14, hd14⟩ := loop_some hd14
 refine c_loop (loop_rule hmx (σ := Nat × (List (Int × Int × Int × Int)) × Int × Option Addr × Nat) (fun s => match s with | (_, d16_l14, t36__s36_l14, a16_l14, c16_l14) => [(0, Vl a_p0 p0 c_p0), (8, Vl a16_l14 d16_l14 c16_l14), (34, Vl a_p1 p1 c_p1), (35, Vi ((p1).length : Int)), (36, Vi t36__s36_l14)]) (fun s w' => match s with | (m, d16_l14, t36__s36_l14, a16_l14, c16_l14) => loopN (planner_Items_L14 p0 p1) m (d16_l14, t36__s36_l14) = some d14 ∧ Ev [] w w' ∧ MS w' [blk a16_l14, M] ∧ FR w.heap.size [blk a16_l14] ∧ SlR (eSl eStr) w' (fl [blk a16_l14, M]) a_p0 c_p0 p0 ∧ OwnS (eIt4) 76 w' (fl [blk a16_l14, M]) a16_l14 c16_l14 d16_l14 ∧ SlR (eProd eStr (eProd (eInt .i64) (eProd (eInt .i64) (eProd (eInt .i64) (eProd (eInt .i64) (eProd (eInt .i64) (eProd eBool eStr))))))) w' (fl [blk a16_l14, M]) a_p1 c_p1 p1) (fun s => s.1) (m14, ([] : List (Int × Int × Int × Int)), 0, none, 0) ⟨rfl, rfl, rfl, rfl, rfl, trivial⟩ ⟨hd14, hev, hms, hfr, hs_p0, ho15, hs_p1⟩ ?_)
 rintro ⟨m14, d16_l14, t36__s36_l14, a16_l14, c16_l14⟩ J wl14 ⟨hn14, hev, hms, hfr, hs_p0, hj16_l14, hs_p1⟩
 rcases m14 with _ | m14
 · exact (loopN_zero hn14).elim
 obtain ⟨t14, h, hn14⟩ := bind_some hn14
 refine c_sp (x_u 1 [(37, .bool (decide (t36__s36_l14 < ((p1).length : Int))))] (x_ek (c_nm [(0, Vl a_p0 p0 c_p0), (8, Vl a16_l14 d16_l14 c16_l14), (34, Vl a_p1 p1 c_p1), (35, Vi ((p1).length : Int)), (36, Vi t36__s36_l14), (37, .bool (decide (t36__s36_l14 < ((p1).length : Int))))] (fun J => ?_))))
 refine c_seq (c_if (decide (t36__s36_l14 < ((p1).length : Int))) rfl h (fun h => ?_) (fun h => ?_))
 · refine c_skip (k_then (c_seq (c_block (c_sp ?_))))
   obtain ⟨x18, hx18, h⟩ := bind_some h
   obtain ⟨ad18, cs18, hr18, hc18, hR⟩ := reads_index (Mo := []) tsl24 hs_p1 hx18
   obtain ⟨_, _, rfl, rfl, ⟨_, _, rfl, rfl, ⟨_, _, rfl, rfl, ⟨_, _, rfl, rfl, ⟨_, _, rfl, rfl, ⟨_, _, rfl, rfl, ⟨_, _, rfl, rfl, rfl⟩⟩⟩⟩⟩⟩⟩ := hR
   refine x_indexAddr (xv := Vl a_p1 p1 c_p1) (yv := Vi t36__s36_l14) (.pointer (some ad18)) rfl rfl rfl rfl hr18 (x_load (xv := .pointer (some ad18)) (.agg #[Vs x18.1, Vi x18.2.1, Vi x18.2.2.1, Vi x18.2.2.2.1, Vi x18.2.2.2.2.1, Vi x18.2.2.2.2.2.1, .bool x18.2.2.2.2.2.2.1, Vs x18.2.2.2.2.2.2.2]) rfl rfl rfl (reads_agg tagg34 hc18 (fun _ h => by cases h)) ?_)
   refine x_alloc (z := .agg #[Vs ([] : List UInt8), Vi 0, Vi 0, Vi 0, Vi 0, Vi 0, .bool false, Vs ([] : List UInt8)]) rfl rfl (by kernel_rfl) (fun b20 w20 hq20 hb20 he20 hz20 => ?_)
   replace hb20 : w20.heap[b20]? = some (.cells #[Vs ([] : List UInt8), Vi 0, Vi 0, Vi 0, Vi 0, Vi 0, .bool false, Vs ([] : List UInt8)] 34 (0, 0)) := hb20
   refine inl1 ?_
   have hst := Stp.box (ls := [blk a16_l14, M]) he20 hq20
   replace hs_p0 := hs_p0.step hst
   replace hj16_l14 := hj16_l14.step hst he20 nn2
   replace hs_p1 := hs_p1.step hst
   replace hms := hms.box he20 hq20 hb20
   replace hfr := hfr.box hev.size hq20
   replace hev := hev.ext he20
   obtain ⟨w22, hr22, hb22, he22⟩ := store_boxagg 0 [Vs x18.1, Vi x18.2.1, Vi x18.2.2.1, Vi x18.2.2.2.1, Vi x18.2.2.2.2.1, Vi x18.2.2.2.2.2.1, .bool x18.2.2.2.2.2.2.1, Vs x18.2.2.2.2.2.2.2] #[Vs x18.1, Vi x18.2.1, Vi x18.2.2.1, Vi x18.2.2.2.1, Vi x18.2.2.2.2.1, Vi x18.2.2.2.2.2.1, .bool x18.2.2.2.2.2.2.1, Vs x18.2.2.2.2.2.2.2] tagg34 hb20 rfl rfl rfl
   refine x_store w22 (xv := Vp b20 0) (yv := .agg #[Vs x18.1, Vi x18.2.1, Vi x18.2.2.1, Vi x18.2.2.2.1, Vi x18.2.2.2.2.1, Vi x18.2.2.2.2.2.1, .bool x18.2.2.2.2.2.2.1, Vs x18.2.2.2.2.2.2.2]) rfl rfl rfl rfl hr22 (inl1 ?_)
   have hst := Stp.ev' (ls := [[b20], blk a16_l14, M]) he22 (mem_flat 0 rfl)
   replace hs_p0 := hs_p0.step hst
   replace hj16_l14 := hj16_l14.step hst he22 (hms.apart 1 0 rfl rfl rfl)
   replace hs_p1 := hs_p1.step hst
   replace hms := hms.ev he22
   replace hev := hev.then he22 (fun b hb => .inr (hfr.at 0 rfl b hb))
   replace hb20 := hb22
   refine x_ek (c_seq (c_sp (x_load (xv := Vp b20 0) (.agg #[Vs x18.1, Vi x18.2.1, Vi x18.2.2.1, Vi x18.2.2.2.1, Vi x18.2.2.2.2.1, Vi x18.2.2.2.2.2.1, .bool x18.2.2.2.2.2.2.1, Vs x18.2.2.2.2.2.2.2]) rfl rfl rfl (reads_boxagg 0 [Vs x18.1, Vi x18.2.1, Vi x18.2.2.1, Vi x18.2.2.2.1, Vi x18.2.2.2.2.1, Vi x18.2.2.2.2.2.1, .bool x18.2.2.2.2.2.2.1, Vs x18.2.2.2.2.2.2.2] tagg34 hb20 nn rfl) ?_)))
   obtain ⟨x24, hx, h⟩ := bind_some h
   have hcall := consist_Valid_w x18.1 x18.2.1 x18.2.2.1 x18.2.2.2.1 x18.2.2.2.2.1 x18.2.2.2.2.2.1 x18.2.2.2.2.2.2.1 x18.2.2.2.2.2.2.2 _ w22 hx
   refine x_call 43 #[] #[] [.agg #[Vs x18.1, Vi x18.2.1, Vi x18.2.2.1, Vi x18.2.2.2.1, Vi x18.2.2.2.2.1, Vi x18.2.2.2.2.2.1, .bool x18.2.2.2.2.2.2.1, Vs x18.2.2.2.2.2.2.2]] _ rfl rfl rfl rfl hcall ?_
   rintro v w25 ⟨rfl, he25⟩
   clear hcall hx
   refine inl1 ?_
   have hst := Stp.ext (ls := [[b20], blk a16_l14, M]) he25
   replace hs_p0 := hs_p0.step hst
   replace hj16_l14 := hj16_l14.step hst he25 nn2
   replace hs_p1 := hs_p1.step hst
   replace hb20 := he25.box hb20 nn
   replace hms := hms.ev he25
   replace hev := hev.ext he25
   refine x_u 1 [(11, Vi x24)] (x_ek (c_sp (x_u 2 [(42, Vi x24), (43, .bool (x24 != 0))] (x_ek (c_if (x24 != 0) rfl h (fun h => ?_) (fun h => ?_))))))
   · refine c_sp (x_u 3 [(44, Vi x24), (4, .slice none 0 0), (5, Vi x24)] (x_ek (c_ret (k_then_ret (k_block_ret ?_)))))
     refine k_then_ret ?_
     obtain rfl := some_inj h
     have hy := some_inj hn14
     subst hy
     replace h := h14
     refine k_then_ret (k_block_ret (k_then_ret (r_ret (r_vals [.slice none 0 0, Vi x24] ⟨rfl, rfl, trivial⟩ ?_))))
     obtain rfl := some_inj h
     have hmr := hms.pick [none, some 2] [blk none, M] rfl
     have hfe := hfr.pick [none] [blk none] rfl
     exact ⟨none, 0, rfl, hev, hmr, hfe, OwnS.nil _ _ _ _⟩
   refine c_skip (k_then (c_sp (x_u 1 [(46, Vl a_p0 p0 c_p0)] (x_fieldAddr (xv := Vp b20 0) (Vp b20 7) rfl rfl rfl (reads_field tfld34_7 _ _) (x_load (xv := Vp b20 7) (Vs x18.2.2.2.2.2.2.2) rfl rfl rfl (reads_box tcell9 hb20 nn 7 _ rfl) ?_)))))
   obtain ⟨x26, hx, h⟩ := bind_some h
   have hcall := planner_find_w a_p0 c_p0 p0 x18.2.2.2.2.2.2.2 _ w25 (fl [[b20], blk a16_l14, M]) (MS.fold (P := []) hms) (hs_p0.sub fl1) hx
   refine x_call 44 #[] #[] [Vl a_p0 p0 c_p0, Vs x18.2.2.2.2.2.2.2] _ rfl rfl rfl rfl hcall ?_
   rintro v w27 ⟨rfl, he27⟩
   clear hcall hx
   refine inl1 ?_
   have hst := Stp.ext (ls := [[b20], blk a16_l14, M]) he27
   replace hs_p0 := hs_p0.step hst
   replace hj16_l14 := hj16_l14.step hst he27 nn2
   replace hs_p1 := hs_p1.step hst
   replace hb20 := he27.box hb20 nn
   replace hms := hms.ev he27
   replace hev := hev.ext he27
   refine x_u 7 [(45, .tuple #[Vi x26.1, Vi x26.2.1, .bool x26.2.2]), (50, Vi x26.1), (51, Vi x26.2.1), (52, .bool x26.2.2), (12, Vi x26.1), (13, Vi x26.2.1), (14, .bool x26.2.2)] (x_ek (c_nm [(0, Vl a_p0 p0 c_p0), (8, Vl a16_l14 d16_l14 c16_l14), (10, Vp b20 0), (12, Vi x26.1), (13, Vi x26.2.1), (14, .bool x26.2.2), (34, Vl a_p1 p1 c_p1), (35, Vi ((p1).length : Int)), (36, Vi t36__s36_l14)] (fun J => ?_)))
   refine c_seq (c_sp (x_u 2 [(53, .bool x26.2.2), (54, .bool (!x26.2.2))] (x_ek (c_if (!x26.2.2) rfl h (fun h => ?_) (fun h => ?_)))))
   · refine c_sp (x_u 2 [(4, .slice none 0 0), (5, Vi 13)] (x_ek (c_ret (k_then_ret (k_block_ret ?_)))))
     refine k_then_ret ?_
     obtain rfl := some_inj h
     have hy := some_inj hn14
     subst hy
     replace h := h14
     refine k_then_ret (k_block_ret (k_then_ret (r_ret (r_vals [.slice none 0 0, Vi 13] ⟨rfl, rfl, trivial⟩ ?_))))
     obtain rfl := some_inj h
     have hmr := hms.pick [none, some 2] [blk none, M] rfl
     have hfe := hfr.pick [none] [blk none] rfl
     exact ⟨none, 0, rfl, hev, hmr, hfe, OwnS.nil _ _ _ _⟩
   refine c_skip (k_then (c_plain (x_u 3 [(55, Vl a16_l14 d16_l14 c16_l14), (56, Vi x26.1), (57, Vi x26.2.1)] (x_fieldAddr (xv := Vp b20 0) (Vp b20 1) rfl rfl rfl (reads_field tfld34_1 _ _) (x_load (xv := Vp b20 1) (Vi x18.2.1) rfl rfl rfl (reads_box tcell3 hb20 nn 1 _ rfl) ?_)))))
   refine x_build (vs := [(0, Vi x26.1), (1, Vi x26.2.1), (3, Vi x18.2.1)]) (.agg #[Vi x26.1, Vi x26.2.1, Vi 0, Vi x18.2.1]) rfl rfl rfl (fun _ _ => by kernel_rfl) ?_
   refine x_buildSlice (vs := [(0, .agg #[Vi x26.1, Vi x26.2.1, Vi 0, Vi x18.2.1])]) #[Vi x26.1, Vi x26.2.1, Vi 0, Vi x18.2.1] 76 rfl rfl rfl (by kernel_rfl) (fun b29 w29 hq29 hb29 he29 hz29 => ?_)
   refine inl1 ?_
   have hms0 := hms
   have hst := Stp.ext (ls := [[b20], blk a16_l14, M]) he29
   replace hs_p0 := hs_p0.step hst
   replace hj16_l14 := hj16_l14.step hst he29 nn2
   replace hs_p1 := hs_p1.step hst
   replace hms := hms.ev he29
   replace hev := hev.ext he29
   have hs29 : SlR (eIt4) w29 (fl [[b20], blk a16_l14, M]) (Ad b29 0) 1 ([(x26.1, x26.2.1, 0, x18.2.1)] : List (Int × Int × Int × Int)) := ro_of_box hms0 hq29 hb29 rfl rfl (cells_at (cs := [Vi x26.1, Vi x26.2.1, Vi 0, Vi x18.2.1]) (CellsOf.cons (c := [Vi x26.1, Vi x26.2.1, Vi 0, Vi x18.2.1]) ⟨[Vi x26.1], [Vi x26.2.1, Vi 0, Vi x18.2.1], rfl, rfl, ⟨[Vi x26.2.1], [Vi 0, Vi x18.2.1], rfl, rfl, ⟨[Vi 0], [Vi x18.2.1], rfl, rfl, rfl⟩⟩⟩ CellsOf.nil))
   clear hb29 hms0
   have hg := guard_l h
   replace h := guard_r h
   obtain ⟨a31, c31, w31, hr31, he31, hn31, hm31, hw31⟩ := own_appendN tel36 36 hj16_l14 (mem_flat 1 rfl) hs29 hg
   refine x_builtin (vs := [Vl a16_l14 d16_l14 c16_l14, .slice (Ad b29 0) (([(x26.1, x26.2.1, 0, x18.2.1)] : List (Int × Int × Int × Int))).length 1]) _ w31 rfl rfl rfl rfl (run_value _ _ _ _ hr31) (inl1 ?_)
   have hst : Stp (fl [[b20], blk a16_l14, M]) w29 (fl [[b20], blk a31, M]) w31 := Stp.upd 1 he31 rfl (fun b hb => (hn31 b hb).1)
   replace hs_p0 := hs_p0.step hst
   replace hs_p1 := hs_p1.step hst
   replace hms : MS w31 [[b20], blk a31, M] := hms.upd 1 he31 rfl hn31
   have hfr2 : FR w.heap.size [[b20], blk a31] := hfr.upd 1 rfl hev.size (fun b hb => (hn31 b hb).1)
   replace hev := hev.then he31 (fun b hb => .inr (hfr.at 1 rfl b hb))
   replace hfr := hfr2
   clear hfr2
   replace hj16_l14 := hw31 (fl [[b20], blk a31, M]) hst.new
   clear hw31
   refine x_u 1 [(8, .slice a31 ((d16_l14 ++ ([(x26.1, x26.2.1, 0, x18.2.1)] : List (Int × Int × Int × Int)))).length c31)] (x_end rfl (k_block (k_then (c_plain (x_u 2 [(63, Vi (IntKind.i64.wrap (t36__s36_l14 + 1))), (36, Vi (IntKind.i64.wrap (t36__s36_l14 + 1)))] ?_)))))
   refine x_end rfl ?_
   obtain rfl := some_inj h
   have hpk := hms.pick [some 1, some 2] [blk a31, M] rfl
   have hsu := pick_sub (ls := [[b20], blk a31, M]) [some 1, some 2] [blk a31, M] rfl
   replace hs_p0 := hs_p0.sub hsu
   replace hj16_l14 := hj16_l14.sub hsu
   replace hs_p1 := hs_p1.sub hsu
   replace hms := hpk
   replace hfr := hfr.pick [some 1] [blk a31] rfl
   clear hpk hsu
   exact k_then ⟨(m14, (d16_l14 ++ ([(x26.1, x26.2.1, 0, x18.2.1)] : List (Int × Int × Int × Int))), IntKind.i64.wrap (t36__s36_l14 + 1), a31, c31), ⟨rfl, rfl, rfl, rfl, rfl, trivial⟩, ⟨hn14, hev, hms, hfr, hs_p0, hj16_l14, hs_p1⟩, Nat.lt_succ_self _⟩
 refine c_exit (k_then_exit ?_)
 obtain rfl := some_inj h
 have hy := some_inj hn14
 subst hy
 replace h := h14
 refine k_then_exit (k_block_in (k_then (c_nm [(8, Vl a16_l14 d16_l14 c16_l14)] (fun J => ?_))))
 refine c_sp (x_u 3 [(64, Vl a16_l14 d16_l14 c16_l14), (4, Vl a16_l14 d16_l14 c16_l14), (5, Vi 0)] (x_ek (c_ret (r_ret (r_vals [Vl a16_l14 d16_l14 c16_l14, Vi 0] ⟨rfl, rfl, trivial⟩ ?_)))))
 obtain rfl := some_inj h
 have hmr := hms.pick [some 0, some 1] [blk a16_l14, M] rfl
 have hsu := pick_sub (ls := [blk a16_l14, M]) [some 0, some 1] [blk a16_l14, M] rfl
 have hfe := hfr.pick [some 0] [blk a16_l14] rfl
 exact ⟨a16_l14, c16_l14, rfl, hev, hmr, hfe, hj16_l14.sub hsu⟩
end Go.Proofs.YtlejnkhaphlooaaGreat
