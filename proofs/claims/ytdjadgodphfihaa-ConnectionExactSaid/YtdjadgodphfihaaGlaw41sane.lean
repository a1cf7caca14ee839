/- Walks, printed by program: each function returns what the partial function of the same name returns. Conditions: those of each theorem. -/
import Derived.Test.YtdjadgodphfihaaGT
import Derived.Test.YtdjadgodphfihaaGconnection
import Derived.Test.YtdjadgodphfihaaGgen
set_option linter.unusedVariables false
set_option linter.unusedSimpArgs false
set_option maxRecDepth 4000
namespace Go.Proofs.Ytdjadgodphfihaa
open Go Go.V Go.Proofs
def law41_sane : Option Bool :=
((connection_Best 100 130 ([90, 110, 125]) 2 30).bind fun x6 =>
((connection_Cost 100 130 ([90, 110, 125]) 2 30 125).bind fun x8 =>
((connection_Saves 100 130 ([90, 110, 125]) 2 30).bind fun x10 =>
(if (x6.2.2 == 0) = true then
(if (x6.1 == 110) = true then
(if (x6.2.1 == 50) = true then
(if (x8.2 == 0) = true then
(if (x8.1 == 50) = true then
(if (x10.2 == 0) = true then
((gen_Ints x10.1 ([100, 110, 125])).bind fun x15 =>
some x15)
else
some false)
else
some false)
else
some false)
else
some false)
else
some false)
else
some false))))

theorem law41_sane_w (r : Bool) (w : World) (h : law41_sane = some r) : CallVC Try.prog 12 [] w fun v w' => v = .bool r ∧ Ev [] w w' := by
 refine calls_vc hmx Try.func12 (by kernel_rfl) rfl (rs := [.tmp 0]) rfl (by kernel_rfl) (args := []) rfl ?_
 have hev : Ev [] w w := Ev.refl _ _
 have hms : MS w [[]] := ⟨List.pairwise_singleton _ _, fun l hl b hb => by simp only [List.mem_singleton] at hl; subst hl; cases hb⟩
 have hfr : FR w.heap.size [] := FR.nil _
 refine c_sp ?_
 refine x_pure 1 [(0, .bool false)] _ _ _ (by kernel_rfl) ?_
 refine x_ek ?_
 refine c_sp ?_
 refine x_buildSlice (vs := [(0, Vi 90), (1, Vi 110), (2, Vi 125)]) #[Vi 90, Vi 110, Vi 125] 3 rfl rfl rfl (by kernel_rfl) (fun b1 w1 hq1 hb1 he1 hz1 => ?_)
 refine inl1 ?_
 have hms0 := hms
 replace hms := hms.ev he1
 replace hev := hev.ext he1
 have hs1 : SlR (eInt .i64) w1 (fl [[]]) (Ad b1 0) 3 ([90, 110, 125]) := ro_of_box hms0 hq1 hb1 rfl rfl (cells_at (cs := [Vi 90, Vi 110, Vi 125]) (CellsOf.cons (c := [Vi 90]) rfl (CellsOf.cons (c := [Vi 110]) rfl (CellsOf.cons (c := [Vi 125]) rfl CellsOf.nil))))
 clear hb1 hms0
 refine x_build (vs := [(0, Vi 100), (1, Vi 130), (2, .slice (Ad b1 0) ([90, 110, 125]).length 3), (3, Vi 2), (4, Vi 30)]) (.agg #[Vi 100, Vi 130, .slice (Ad b1 0) ([90, 110, 125]).length 3, Vi 2, Vi 30]) rfl rfl rfl (fun _ _ => by kernel_rfl) ?_
 refine x_alloc (z := .agg #[Vi 0, Vi 0, .slice none 0 0, Vi 0, Vi 0]) rfl rfl (by kernel_rfl) (fun b3 w3 hq3 hb3 he3 hz3 => ?_)
 replace hb3 : w3.heap[b3]? = some (.cells #[Vi 0, Vi 0, .slice none 0 0, Vi 0, Vi 0] 24 (0, 0)) := hb3
 refine inl1 ?_
 have hst := Stp.box (ls := [[]]) he3 hq3
 replace hs1 := hs1.step hst
 replace hms := hms.box he3 hq3 hb3
 replace hfr := hfr.box hev.size hq3
 replace hev := hev.ext he3
 obtain ⟨w5, hr5, hb5, he5⟩ := store_boxagg 0 [Vi 100, Vi 130, .slice (Ad b1 0) ([90, 110, 125]).length 3, Vi 2, Vi 30] #[Vi 100, Vi 130, .slice (Ad b1 0) ([90, 110, 125]).length 3, Vi 2, Vi 30] tagg24 hb3 rfl rfl rfl
 refine x_store w5 (xv := Vp b3 0) (yv := .agg #[Vi 100, Vi 130, .slice (Ad b1 0) ([90, 110, 125]).length 3, Vi 2, Vi 30]) rfl rfl rfl rfl hr5 ?_
 refine inl1 ?_
 have hst := Stp.ev' (ls := [[b3], []]) he5 (mem_flat 0 rfl)
 replace hs1 := hs1.step hst
 replace hms := hms.ev he5
 replace hev := hev.then he5 (fun b hb => .inr (hfr.at 0 rfl b hb))
 replace hb3 := hb5
 refine x_ek ?_
 refine c_sp ?_
 refine x_load (xv := Vp b3 0) (.agg #[Vi 100, Vi 130, .slice (Ad b1 0) ([90, 110, 125]).length 3, Vi 2, Vi 30]) rfl rfl rfl (reads_boxagg 0 [Vi 100, Vi 130, .slice (Ad b1 0) ([90, 110, 125]).length 3, Vi 2, Vi 30] tagg24 hb3 nn rfl) ?_
 obtain ⟨x6, hx, h⟩ := bind_some h
 have hpk : MS w5 ([] ++ [[b3], []]) := hms.pick [some 0, some 1] _ rfl
 have hsb0 : ∀ x ∈ fl ([] ++ [[b3], []]), x ∈ fl [[b3], []] := pick_sub [some 0, some 1] _ rfl
 have hsb : ∀ x ∈ fl ([] ++ [(fl [[b3], []])]), x ∈ fl [[b3], []] := fun x hx => hsb0 x (fl_unfold x hx)
 have hcall := connection_Best_w 100 130 (Ad b1 0) 3 ([90, 110, 125]) 2 30 _ w5 (fl [[b3], []]) (MS.fold (P := []) hpk) (hs1.sub hsb) hx
 refine x_call 13 #[] #[] [.agg #[Vi 100, Vi 130, .slice (Ad b1 0) ([90, 110, 125]).length 3, Vi 2, Vi 30]] _ rfl rfl rfl rfl hcall ?_
 rintro v w7 ⟨rfl, he7⟩
 clear hcall hx
 refine inl1 ?_
 have hst := Stp.ext (ls := [[b3], []]) he7
 replace hs1 := hs1.step hst
 replace hb3 := he7.box hb3 nn
 replace hms := hms.ev he7
 replace hev := hev.ext he7
 clear hpk hsb hsb0
 refine x_pure 7 [(11, .tuple #[Vi x6.1, Vi x6.2.1, Vi x6.2.2]), (14, Vi x6.1), (15, Vi x6.2.1), (16, Vi x6.2.2), (2, Vi x6.1), (3, Vi x6.2.1), (4, Vi x6.2.2)] _ _ _ (by kernel_rfl) ?_
 refine x_ek ?_
 refine c_sp ?_
 refine x_load (xv := Vp b3 0) (.agg #[Vi 100, Vi 130, .slice (Ad b1 0) ([90, 110, 125]).length 3, Vi 2, Vi 30]) rfl rfl rfl (reads_boxagg 0 [Vi 100, Vi 130, .slice (Ad b1 0) ([90, 110, 125]).length 3, Vi 2, Vi 30] tagg24 hb3 nn rfl) ?_
 obtain ⟨x8, hx, h⟩ := bind_some h
 have hpk : MS w7 ([] ++ [[b3], []]) := hms.pick [some 0, some 1] _ rfl
 have hsb0 : ∀ x ∈ fl ([] ++ [[b3], []]), x ∈ fl [[b3], []] := pick_sub [some 0, some 1] _ rfl
 have hsb : ∀ x ∈ fl ([] ++ [(fl [[b3], []])]), x ∈ fl [[b3], []] := fun x hx => hsb0 x (fl_unfold x hx)
 have hcall := connection_Cost_w 100 130 (Ad b1 0) 3 ([90, 110, 125]) 2 30 125 _ w7 (fl [[b3], []]) (MS.fold (P := []) hpk) (hs1.sub hsb) hx
 refine x_call 14 #[] #[] [.agg #[Vi 100, Vi 130, .slice (Ad b1 0) ([90, 110, 125]).length 3, Vi 2, Vi 30], Vi 125] _ rfl rfl rfl rfl hcall ?_
 rintro v w9 ⟨rfl, he9⟩
 clear hcall hx
 refine inl1 ?_
 have hst := Stp.ext (ls := [[b3], []]) he9
 replace hs1 := hs1.step hst
 replace hb3 := he9.box hb3 nn
 replace hms := hms.ev he9
 replace hev := hev.ext he9
 clear hpk hsb hsb0
 refine x_pure 5 [(17, .tuple #[Vi x8.1, Vi x8.2]), (20, Vi x8.1), (21, Vi x8.2), (5, Vi x8.1), (6, Vi x8.2)] _ _ _ (by kernel_rfl) ?_
 refine x_ek ?_
 refine c_norm [(1, Vp b3 0), (2, Vi x6.1), (3, Vi x6.2.1), (4, Vi x6.2.2), (5, Vi x8.1), (6, Vi x8.2)] ⟨rfl, rfl, rfl, rfl, rfl, rfl, trivial⟩ (fun J => ?_)
 refine c_sp ?_
 refine x_load (xv := Vp b3 0) (.agg #[Vi 100, Vi 130, .slice (Ad b1 0) ([90, 110, 125]).length 3, Vi 2, Vi 30]) rfl rfl rfl (reads_boxagg 0 [Vi 100, Vi 130, .slice (Ad b1 0) ([90, 110, 125]).length 3, Vi 2, Vi 30] tagg24 hb3 nn rfl) ?_
 obtain ⟨x10, hx, h⟩ := bind_some h
 have hpk : MS w9 ([] ++ [[b3], []]) := hms.pick [some 0, some 1] _ rfl
 have hsb0 : ∀ x ∈ fl ([] ++ [[b3], []]), x ∈ fl [[b3], []] := pick_sub [some 0, some 1] _ rfl
 have hsb : ∀ x ∈ fl ([] ++ [(fl [[b3], []])]), x ∈ fl [[b3], []] := fun x hx => hsb0 x (fl_unfold x hx)
 have hcall := connection_Saves_w 100 130 (Ad b1 0) 3 ([90, 110, 125]) 2 30 _ w9 (fl [[b3], []]) (MS.fold (P := []) hpk) (hs1.sub hsb) hx
 refine x_call 15 #[] #[] [.agg #[Vi 100, Vi 130, .slice (Ad b1 0) ([90, 110, 125]).length 3, Vi 2, Vi 30]] _ rfl rfl rfl rfl hcall ?_
 rintro v w11 ⟨a0_11, c0_11, rfl, he11, hmn11, hfn11, hf11_1⟩
 clear hcall hx
 refine inl1 ?_
 have hpk2 : MS w9 ([] ++ [[b3], []]) := hms.pick [some 0, some 1] _ rfl
 have hsb2 : ∀ x ∈ fl ([] ++ [[b3], []]), x ∈ fl [[b3], []] := pick_sub [some 0, some 1] _ rfl
 have hst0 := Stp.call (LS := [[b3], []]) (res := [blk a0_11]) (par := []) (R := [[b3], []]) he11 (fun b hb => hsb2 b (fl_left' (P := []) b hb)) hfn11 (NP.init _ _) (fun x hx => hsb2 x (fl_right' (P := []) x hx))
 have hsn : ∀ x ∈ fl [blk a0_11, [b3], []], x ∈ fl ([blk a0_11] ++ ([] ++ [[b3], []])) := pick_sub [some 0, some 1, some 2] _ rfl
 have hst := hst0.res hsn
 replace hs1 := hs1.step hst
 replace hb3 := he11.box hb3 ((MS.outs (P := []) hpk2 0 rfl) _ mem1)
 replace hms : MS w11 [blk a0_11, [b3], []] := (MS.call (P := []) (R := [[b3], []]) (res := [blk a0_11]) (par := []) hpk2 he11 hmn11 hfn11 (NP.init _ _)).pick [some 0, some 1, some 2] _ rfl
 have hfr2 : FR w.heap.size [blk a0_11, [b3]] := (FR.cons (fun b hb => Nat.le_trans hev.size (hfn11.at 0 rfl b hb)) (FR.cons (hfr.at 0 rfl) (FR.nil _)))
 replace hev := hev.ext he11
 replace hfr := hfr2
 clear hfr2
 replace hf11_1 := OwnS.plain (M' := fl [blk a0_11, [b3], []]) (plain_int _) hf11_1
 clear hpk hsb hsb0 hpk2 hsb2 hst0 hsn hst
 have hpk : MS w11 [[b3], []] := hms.pick [some 1, some 2] _ rfl
 have hsu : ∀ x ∈ fl [[b3], []], x ∈ fl [blk a0_11, [b3], []] := pick_sub [some 1, some 2] _ rfl
 replace hs1 := hs1.sub hsu
 replace hf11_1 := hf11_1.ro hsu (pick_out hms 0 rfl [some 1, some 2] [[b3], []] rfl rfl)
 replace hms := hpk
 replace hfr : FR w.heap.size [[b3]] := hfr.pick [some 1] _ rfl
 clear hpk hsu
 refine x_pure 5 [(22, .tuple #[.slice a0_11 (x10.1).length c0_11, Vi x10.2]), (25, .slice a0_11 (x10.1).length c0_11), (26, Vi x10.2), (7, .slice a0_11 (x10.1).length c0_11), (8, Vi x10.2)] _ _ _ (by kernel_rfl) ?_
 refine x_ek ?_
 refine c_sp ?_
 refine x_pure 3 [(27, Vi x6.2.2), (28, .bool (x6.2.2 == 0)), (29, .bool (x6.2.2 == 0))] _ _ _ (by kernel_rfl) ?_
 refine x_split 29 (x6.2.2 == 0) rfl (fun hb => ?_) (fun hb => ?_)
 · replace h := ite_t hb h
   refine x_pure 4 [(30, Vi x6.1), (31, .bool (x6.1 == 110)), (32, .bool (x6.1 == 110)), (33, .bool (x6.1 == 110))] _ _ _ (by kernel_rfl) ?_
   refine x_split 33 (x6.1 == 110) rfl (fun hb => ?_) (fun hb => ?_)
   · replace h := ite_t hb h
     refine x_pure 4 [(34, Vi x6.2.1), (35, .bool (x6.2.1 == 50)), (36, .bool (x6.2.1 == 50)), (37, .bool (x6.2.1 == 50))] _ _ _ (by kernel_rfl) ?_
     refine x_split 37 (x6.2.1 == 50) rfl (fun hb => ?_) (fun hb => ?_)
     · replace h := ite_t hb h
       refine x_pure 4 [(38, Vi x8.2), (39, .bool (x8.2 == 0)), (40, .bool (x8.2 == 0)), (41, .bool (x8.2 == 0))] _ _ _ (by kernel_rfl) ?_
       refine x_split 41 (x8.2 == 0) rfl (fun hb => ?_) (fun hb => ?_)
       · replace h := ite_t hb h
         refine x_pure 4 [(42, Vi x8.1), (43, .bool (x8.1 == 50)), (44, .bool (x8.1 == 50)), (45, .bool (x8.1 == 50))] _ _ _ (by kernel_rfl) ?_
         refine x_split 45 (x8.1 == 50) rfl (fun hb => ?_) (fun hb => ?_)
         · replace h := ite_t hb h
           refine x_pure 4 [(46, Vi x10.2), (47, .bool (x10.2 == 0)), (48, .bool (x10.2 == 0)), (49, .bool (x10.2 == 0))] _ _ _ (by kernel_rfl) ?_
           refine x_split 49 (x10.2 == 0) rfl (fun hb => ?_) (fun hb => ?_)
           · replace h := ite_t hb h
             refine x_pure 1 [(50, .slice a0_11 (x10.1).length c0_11)] _ _ _ (by kernel_rfl) ?_
             refine x_buildSlice (vs := [(0, Vi 100), (1, Vi 110), (2, Vi 125)]) #[Vi 100, Vi 110, Vi 125] 3 rfl rfl rfl (by kernel_rfl) (fun b13 w13 hq13 hb13 he13 hz13 => ?_)
             refine inl1 ?_
             have hms0 := hms
             have hst := Stp.ext (ls := [[b3], []]) he13
             replace hs1 := hs1.step hst
             replace hb3 := he13.box hb3 nn
             replace hf11_1 := hf11_1.step hst
             replace hms := hms.ev he13
             replace hev := hev.ext he13
             have hs13 : SlR (eInt .i64) w13 (fl [[b3], []]) (Ad b13 0) 3 ([100, 110, 125]) := ro_of_box hms0 hq13 hb13 rfl rfl (cells_at (cs := [Vi 100, Vi 110, Vi 125]) (CellsOf.cons (c := [Vi 100]) rfl (CellsOf.cons (c := [Vi 110]) rfl (CellsOf.cons (c := [Vi 125]) rfl CellsOf.nil))))
             clear hb13 hms0
             obtain ⟨x15, hx, h⟩ := bind_some h
             have hpk : MS w13 ([] ++ [[b3], []]) := hms.pick [some 0, some 1] _ rfl
             have hsb0 : ∀ x ∈ fl ([] ++ [[b3], []]), x ∈ fl [[b3], []] := pick_sub [some 0, some 1] _ rfl
             have hsb : ∀ x ∈ fl ([] ++ [(fl [[b3], []])]), x ∈ fl [[b3], []] := fun x hx => hsb0 x (fl_unfold x hx)
             have hcall := gen_Ints_w a0_11 c0_11 x10.1 (Ad b13 0) 3 ([100, 110, 125]) _ w13 (fl [[b3], []]) (MS.fold (P := []) hpk) (hf11_1.sub hsb) (hs13.sub hsb) hx
             refine x_call 24 #[] #[] [.slice a0_11 (x10.1).length c0_11, .slice (Ad b13 0) ([100, 110, 125]).length 3] _ rfl rfl rfl rfl hcall ?_
             rintro v w16 ⟨rfl, he16⟩
             clear hcall hx
             refine inl1 ?_
             have hst := Stp.ext (ls := [[b3], []]) he16
             replace hs1 := hs1.step hst
             replace hb3 := he16.box hb3 nn
             replace hf11_1 := hf11_1.step hst
             replace hs13 := hs13.step hst
             replace hms := hms.ev he16
             replace hev := hev.ext he16
             clear hpk hsb hsb0
             refine x_pure 2 [(53, .bool x15), (0, .bool x15)] _ _ _ (by kernel_rfl) ?_
             refine x_ek ?_
             refine c_norm [(0, .bool x15)] ⟨rfl, trivial⟩ (fun J => ?_)
             refine c_ret ?_
             refine r_ret (r_vals [.bool x15] ⟨rfl, trivial⟩ ?_)
             have hx := some_inj h
             subst hx
             exact ⟨rfl, hev⟩
           replace h := ite_f hb h
           refine x_pure 5 [(50, undef), (51, undef), (52, undef), (53, .bool false), (0, .bool false)] _ _ _ (by kernel_rfl) ?_
           refine x_ek ?_
           refine c_norm [(0, .bool false)] ⟨rfl, trivial⟩ (fun J => ?_)
           refine c_ret ?_
           refine r_ret (r_vals [.bool false] ⟨rfl, trivial⟩ ?_)
           have hx := some_inj h
           subst hx
           exact ⟨rfl, hev⟩
         replace h := ite_f hb h
         refine x_pure 9 [(46, undef), (47, undef), (48, .bool false), (49, .bool false), (50, undef), (51, undef), (52, undef), (53, .bool false), (0, .bool false)] _ _ _ (by kernel_rfl) ?_
         refine x_ek ?_
         refine c_norm [(0, .bool false)] ⟨rfl, trivial⟩ (fun J => ?_)
         refine c_ret ?_
         refine r_ret (r_vals [.bool false] ⟨rfl, trivial⟩ ?_)
         have hx := some_inj h
         subst hx
         exact ⟨rfl, hev⟩
       replace h := ite_f hb h
       refine x_pure 13 [(42, undef), (43, undef), (44, .bool false), (45, .bool false), (46, undef), (47, undef), (48, .bool false), (49, .bool false), (50, undef), (51, undef), (52, undef), (53, .bool false), (0, .bool false)] _ _ _ (by kernel_rfl) ?_
       refine x_ek ?_
       refine c_norm [(0, .bool false)] ⟨rfl, trivial⟩ (fun J => ?_)
       refine c_ret ?_
       refine r_ret (r_vals [.bool false] ⟨rfl, trivial⟩ ?_)
       have hx := some_inj h
       subst hx
       exact ⟨rfl, hev⟩
     replace h := ite_f hb h
     refine x_pure 17 [(38, undef), (39, undef), (40, .bool false), (41, .bool false), (42, undef), (43, undef), (44, .bool false), (45, .bool false), (46, undef), (47, undef), (48, .bool false), (49, .bool false), (50, undef), (51, undef), (52, undef), (53, .bool false), (0, .bool false)] _ _ _ (by kernel_rfl) ?_
     refine x_ek ?_
     refine c_norm [(0, .bool false)] ⟨rfl, trivial⟩ (fun J => ?_)
     refine c_ret ?_
     refine r_ret (r_vals [.bool false] ⟨rfl, trivial⟩ ?_)
     have hx := some_inj h
     subst hx
     exact ⟨rfl, hev⟩
   replace h := ite_f hb h
   refine x_pure 21 [(34, undef), (35, undef), (36, .bool false), (37, .bool false), (38, undef), (39, undef), (40, .bool false), (41, .bool false), (42, undef), (43, undef), (44, .bool false), (45, .bool false), (46, undef), (47, undef), (48, .bool false), (49, .bool false), (50, undef), (51, undef), (52, undef), (53, .bool false), (0, .bool false)] _ _ _ (by kernel_rfl) ?_
   refine x_ek ?_
   refine c_norm [(0, .bool false)] ⟨rfl, trivial⟩ (fun J => ?_)
   refine c_ret ?_
   refine r_ret (r_vals [.bool false] ⟨rfl, trivial⟩ ?_)
   have hx := some_inj h
   subst hx
   exact ⟨rfl, hev⟩
 replace h := ite_f hb h
 refine x_pure 25 [(30, undef), (31, undef), (32, .bool false), (33, .bool false), (34, undef), (35, undef), (36, .bool false), (37, .bool false), (38, undef), (39, undef), (40, .bool false), (41, .bool false), (42, undef), (43, undef), (44, .bool false), (45, .bool false), (46, undef), (47, undef), (48, .bool false), (49, .bool false), (50, undef), (51, undef), (52, undef), (53, .bool false), (0, .bool false)] _ _ _ (by kernel_rfl) ?_
 refine x_ek ?_
 refine c_norm [(0, .bool false)] ⟨rfl, trivial⟩ (fun J => ?_)
 refine c_ret ?_
 refine r_ret (r_vals [.bool false] ⟨rfl, trivial⟩ ?_)
 have hx := some_inj h
 subst hx
 exact ⟨rfl, hev⟩
end Go.Proofs.Ytdjadgodphfihaa
