/- Walks, printed by program: each function returns what the partial function of the same name returns. Conditions: those of each theorem. -/
import Derived.Test.YtdbomhhcebmkpaaGT
import Derived.Test.YtdbomhhcebmkpaaGassign
import Derived.Test.YtdbomhhcebmkpaaGgen
import Derived.Test.YtdbomhhcebmkpaaGr16
set_option linter.unusedVariables false
set_option linter.unusedSimpArgs false
set_option maxRecDepth 4000
namespace Go.Proofs.Ytdbomhhcebmkpaa
open Go Go.V Go.Proofs
def law16_exact (p0 : List Int) (p1 : List Int) (p2 : List Int) (p3 : List Int) : Option Bool :=
((assign_Match p0 p1).bind fun x5 =>
((r16_Match p0 p1).bind fun x9 =>
((gen_Ints x5.1 x9.1).bind fun x13 =>
(if x13 = true then
((gen_Ints x5.2.1 x9.2.1).bind fun x15 =>
(if x15 = true then
(if (x5.2.2 == x9.2.2) = true then
((assign_Fits p0 p1 p2).bind fun x17 =>
((r16_Fits p0 p1 p2).bind fun x19 =>
(if (x17 == x19) = true then
((assign_Refuses p0 p1 p3).bind fun x21 =>
((r16_Refuses p0 p1 p3).bind fun x23 =>
some (x21 == x23)))
else
some false)))
else
some false)
else
some false))
else
some false))))

theorem law16_exact_w (a_p0 : Option Addr) (c_p0 : Nat) (p0 : List Int) (a_p1 : Option Addr) (c_p1 : Nat) (p1 : List Int) (a_p2 : Option Addr) (c_p2 : Nat) (p2 : List Int) (a_p3 : Option Addr) (c_p3 : Nat) (p3 : List Int) (r : Bool) (w : World) (M : List Nat) (hms : MS w [M]) (hs_p0 : SlR (eInt .i64) w (fl [M]) a_p0 c_p0 p0) (hs_p1 : SlR (eInt .i64) w (fl [M]) a_p1 c_p1 p1) (hs_p2 : SlR (eInt .i64) w (fl [M]) a_p2 c_p2 p2) (hs_p3 : SlR (eInt .i64) w (fl [M]) a_p3 c_p3 p3) (h : law16_exact p0 p1 p2 p3 = some r) : CallVC Try.prog 18 [.slice a_p0 (p0).length c_p0, .slice a_p1 (p1).length c_p1, .slice a_p2 (p2).length c_p2, .slice a_p3 (p3).length c_p3] w fun v w' => v = .bool r ∧ Ev [] w w' := by
 refine calls_vc hmx Try.func18 (by kernel_rfl) rfl (rs := [.tmp 8]) rfl (by kernel_rfl) (args := [.slice a_p0 (p0).length c_p0, .slice a_p1 (p1).length c_p1, .slice a_p2 (p2).length c_p2, .slice a_p3 (p3).length c_p3]) rfl ?_
 have hev : Ev [] w w := Ev.refl _ _
 have hfr : FR w.heap.size [] := FR.nil _
 refine c_sp ?_
 refine x_pure 1 [(8, .bool false)] _ _ _ (by kernel_rfl) ?_
 refine x_ek ?_
 refine c_sp ?_
 refine x_pure 2 [(16, .slice a_p0 (p0).length c_p0), (17, .slice a_p1 (p1).length c_p1)] _ _ _ (by kernel_rfl) ?_
 obtain ⟨x5, hx, h⟩ := bind_some h
 have hpk : MS w ([] ++ [M]) := hms.pick [some 0] _ rfl
 have hsb0 : ∀ x ∈ fl ([] ++ [M]), x ∈ fl [M] := pick_sub [some 0] _ rfl
 have hsb : ∀ x ∈ fl ([] ++ [(fl [M])]), x ∈ fl [M] := fun x hx => hsb0 x (fl_unfold x hx)
 have hcall := assign_Match_w a_p0 c_p0 p0 a_p1 c_p1 p1 _ w (fl [M]) (MS.fold (P := []) hpk) (hs_p0.sub hsb) (hs_p1.sub hsb) hx
 refine x_call 8 #[] #[] [.slice a_p0 (p0).length c_p0, .slice a_p1 (p1).length c_p1] _ rfl rfl rfl rfl hcall ?_
 rintro v w6 ⟨a0_6, c0_6, a2_6, c2_6, rfl, he6, hmn6, hfn6, hf6_1, hf6_2⟩
 clear hcall hx
 refine inl1 ?_
 have hpk2 : MS w ([] ++ [M]) := hms.pick [some 0] _ rfl
 have hsb2 : ∀ x ∈ fl ([] ++ [M]), x ∈ fl [M] := pick_sub [some 0] _ rfl
 have hst0 := Stp.call (LS := [M]) (res := [blk a0_6, blk a2_6]) (par := []) (R := [M]) he6 (fun b hb => hsb2 b (fl_left' (P := []) b hb)) hfn6 (NP.init _ _) (fun x hx => hsb2 x (fl_right' (P := []) x hx))
 have hsn : ∀ x ∈ fl [blk a0_6, blk a2_6, M], x ∈ fl ([blk a0_6, blk a2_6] ++ ([] ++ [M])) := pick_sub [some 0, some 1, some 2] _ rfl
 have hst := hst0.res hsn
 replace hs_p0 := hs_p0.step hst
 replace hs_p1 := hs_p1.step hst
 replace hs_p2 := hs_p2.step hst
 replace hs_p3 := hs_p3.step hst
 replace hms : MS w6 [blk a0_6, blk a2_6, M] := (MS.call (P := []) (R := [M]) (res := [blk a0_6, blk a2_6]) (par := []) hpk2 he6 hmn6 hfn6 (NP.init _ _)).pick [some 0, some 1, some 2] _ rfl
 have hfr2 : FR w.heap.size [blk a0_6, blk a2_6] := (FR.cons (fun b hb => Nat.le_trans hev.size (hfn6.at 0 rfl b hb)) (FR.cons (fun b hb => Nat.le_trans hev.size (hfn6.at 1 rfl b hb)) (FR.nil _)))
 replace hev := hev.ext he6
 replace hfr := hfr2
 clear hfr2
 replace hf6_1 := OwnS.plain (M' := fl [blk a0_6, blk a2_6, M]) (plain_int _) hf6_1
 replace hf6_2 := OwnS.plain (M' := fl [blk a0_6, blk a2_6, M]) (plain_int _) hf6_2
 clear hpk hsb hsb0 hpk2 hsb2 hst0 hsn hst
 have hpk : MS w6 [blk a2_6, M] := hms.pick [some 1, some 2] _ rfl
 have hsu : ∀ x ∈ fl [blk a2_6, M], x ∈ fl [blk a0_6, blk a2_6, M] := pick_sub [some 1, some 2] _ rfl
 replace hs_p0 := hs_p0.sub hsu
 replace hs_p1 := hs_p1.sub hsu
 replace hs_p2 := hs_p2.sub hsu
 replace hs_p3 := hs_p3.sub hsu
 replace hf6_1 := hf6_1.ro hsu (pick_out hms 0 rfl [some 1, some 2] [blk a2_6, M] rfl rfl)
 replace hf6_2 := hf6_2.sub hsu
 replace hms := hpk
 replace hfr : FR w.heap.size [blk a2_6] := hfr.pick [some 1] _ rfl
 clear hpk hsu
 have hpk : MS w6 [M] := hms.pick [some 1] _ rfl
 have hsu : ∀ x ∈ fl [M], x ∈ fl [blk a2_6, M] := pick_sub [some 1] _ rfl
 replace hs_p0 := hs_p0.sub hsu
 replace hs_p1 := hs_p1.sub hsu
 replace hs_p2 := hs_p2.sub hsu
 replace hs_p3 := hs_p3.sub hsu
 replace hf6_1 := hf6_1.sub hsu
 replace hf6_2 := hf6_2.ro hsu (pick_out hms 0 rfl [some 1] [M] rfl rfl)
 replace hms := hpk
 replace hfr : FR w.heap.size [] := hfr.pick [] _ rfl
 clear hpk hsu
 refine x_pure 7 [(15, .tuple #[.slice a0_6 (x5.1).length c0_6, .slice a2_6 (x5.2.1).length c2_6, Vi x5.2.2]), (19, .slice a0_6 (x5.1).length c0_6), (20, .slice a2_6 (x5.2.1).length c2_6), (21, Vi x5.2.2), (9, .slice a0_6 (x5.1).length c0_6), (10, .slice a2_6 (x5.2.1).length c2_6), (11, Vi x5.2.2)] _ _ _ (by kernel_rfl) ?_
 refine x_ek ?_
 refine c_sp ?_
 refine x_pure 2 [(23, .slice a_p0 (p0).length c_p0), (24, .slice a_p1 (p1).length c_p1)] _ _ _ (by kernel_rfl) ?_
 obtain ⟨x9, hx, h⟩ := bind_some h
 have hpk : MS w6 ([] ++ [M]) := hms.pick [some 0] _ rfl
 have hsb0 : ∀ x ∈ fl ([] ++ [M]), x ∈ fl [M] := pick_sub [some 0] _ rfl
 have hsb : ∀ x ∈ fl ([] ++ [(fl [M])]), x ∈ fl [M] := fun x hx => hsb0 x (fl_unfold x hx)
 have hcall := r16_Match_w a_p0 c_p0 p0 a_p1 c_p1 p1 _ w6 (fl [M]) (MS.fold (P := []) hpk) (hs_p0.sub hsb) (hs_p1.sub hsb) hx
 refine x_call 14 #[] #[] [.slice a_p0 (p0).length c_p0, .slice a_p1 (p1).length c_p1] _ rfl rfl rfl rfl hcall ?_
 rintro v w10 ⟨a0_10, c0_10, a2_10, c2_10, rfl, he10, hmn10, hfn10, hf10_1, hf10_2⟩
 clear hcall hx
 refine inl1 ?_
 have hpk2 : MS w6 ([] ++ [M]) := hms.pick [some 0] _ rfl
 have hsb2 : ∀ x ∈ fl ([] ++ [M]), x ∈ fl [M] := pick_sub [some 0] _ rfl
 have hst0 := Stp.call (LS := [M]) (res := [blk a0_10, blk a2_10]) (par := []) (R := [M]) he10 (fun b hb => hsb2 b (fl_left' (P := []) b hb)) hfn10 (NP.init _ _) (fun x hx => hsb2 x (fl_right' (P := []) x hx))
 have hsn : ∀ x ∈ fl [blk a0_10, blk a2_10, M], x ∈ fl ([blk a0_10, blk a2_10] ++ ([] ++ [M])) := pick_sub [some 0, some 1, some 2] _ rfl
 have hst := hst0.res hsn
 replace hs_p0 := hs_p0.step hst
 replace hs_p1 := hs_p1.step hst
 replace hs_p2 := hs_p2.step hst
 replace hs_p3 := hs_p3.step hst
 replace hf6_1 := hf6_1.step hst
 replace hf6_2 := hf6_2.step hst
 replace hms : MS w10 [blk a0_10, blk a2_10, M] := (MS.call (P := []) (R := [M]) (res := [blk a0_10, blk a2_10]) (par := []) hpk2 he10 hmn10 hfn10 (NP.init _ _)).pick [some 0, some 1, some 2] _ rfl
 have hfr2 : FR w.heap.size [blk a0_10, blk a2_10] := (FR.cons (fun b hb => Nat.le_trans hev.size (hfn10.at 0 rfl b hb)) (FR.cons (fun b hb => Nat.le_trans hev.size (hfn10.at 1 rfl b hb)) (FR.nil _)))
 replace hev := hev.ext he10
 replace hfr := hfr2
 clear hfr2
 replace hf10_1 := OwnS.plain (M' := fl [blk a0_10, blk a2_10, M]) (plain_int _) hf10_1
 replace hf10_2 := OwnS.plain (M' := fl [blk a0_10, blk a2_10, M]) (plain_int _) hf10_2
 clear hpk hsb hsb0 hpk2 hsb2 hst0 hsn hst
 have hpk : MS w10 [blk a2_10, M] := hms.pick [some 1, some 2] _ rfl
 have hsu : ∀ x ∈ fl [blk a2_10, M], x ∈ fl [blk a0_10, blk a2_10, M] := pick_sub [some 1, some 2] _ rfl
 replace hs_p0 := hs_p0.sub hsu
 replace hs_p1 := hs_p1.sub hsu
 replace hs_p2 := hs_p2.sub hsu
 replace hs_p3 := hs_p3.sub hsu
 replace hf6_1 := hf6_1.sub hsu
 replace hf6_2 := hf6_2.sub hsu
 replace hf10_1 := hf10_1.ro hsu (pick_out hms 0 rfl [some 1, some 2] [blk a2_10, M] rfl rfl)
 replace hf10_2 := hf10_2.sub hsu
 replace hms := hpk
 replace hfr : FR w.heap.size [blk a2_10] := hfr.pick [some 1] _ rfl
 clear hpk hsu
 have hpk : MS w10 [M] := hms.pick [some 1] _ rfl
 have hsu : ∀ x ∈ fl [M], x ∈ fl [blk a2_10, M] := pick_sub [some 1] _ rfl
 replace hs_p0 := hs_p0.sub hsu
 replace hs_p1 := hs_p1.sub hsu
 replace hs_p2 := hs_p2.sub hsu
 replace hs_p3 := hs_p3.sub hsu
 replace hf6_1 := hf6_1.sub hsu
 replace hf6_2 := hf6_2.sub hsu
 replace hf10_1 := hf10_1.sub hsu
 replace hf10_2 := hf10_2.ro hsu (pick_out hms 0 rfl [some 1] [M] rfl rfl)
 replace hms := hpk
 replace hfr : FR w.heap.size [] := hfr.pick [] _ rfl
 clear hpk hsu
 refine x_pure 7 [(22, .tuple #[.slice a0_10 (x9.1).length c0_10, .slice a2_10 (x9.2.1).length c2_10, Vi x9.2.2]), (26, .slice a0_10 (x9.1).length c0_10), (27, .slice a2_10 (x9.2.1).length c2_10), (28, Vi x9.2.2), (12, .slice a0_10 (x9.1).length c0_10), (13, .slice a2_10 (x9.2.1).length c2_10), (14, Vi x9.2.2)] _ _ _ (by kernel_rfl) ?_
 refine x_ek ?_
 refine c_norm [(0, .slice a_p0 (p0).length c_p0), (1, .slice a_p1 (p1).length c_p1), (2, .slice a_p2 (p2).length c_p2), (3, .slice a_p3 (p3).length c_p3), (9, .slice a0_6 (x5.1).length c0_6), (10, .slice a2_6 (x5.2.1).length c2_6), (11, Vi x5.2.2), (12, .slice a0_10 (x9.1).length c0_10), (13, .slice a2_10 (x9.2.1).length c2_10), (14, Vi x9.2.2)] ⟨rfl, rfl, rfl, rfl, rfl, rfl, rfl, rfl, rfl, rfl, trivial⟩ (fun J => ?_)
 refine c_sp ?_
 refine x_pure 2 [(29, .slice a0_6 (x5.1).length c0_6), (30, .slice a0_10 (x9.1).length c0_10)] _ _ _ (by kernel_rfl) ?_
 obtain ⟨x13, hx, h⟩ := bind_some h
 have hpk : MS w10 ([] ++ [M]) := hms.pick [some 0] _ rfl
 have hsb0 : ∀ x ∈ fl ([] ++ [M]), x ∈ fl [M] := pick_sub [some 0] _ rfl
 have hsb : ∀ x ∈ fl ([] ++ [(fl [M])]), x ∈ fl [M] := fun x hx => hsb0 x (fl_unfold x hx)
 have hcall := gen_Ints_w a0_6 c0_6 x5.1 a0_10 c0_10 x9.1 _ w10 (fl [M]) (MS.fold (P := []) hpk) (hf6_1.sub hsb) (hf10_1.sub hsb) hx
 refine x_call 25 #[] #[] [.slice a0_6 (x5.1).length c0_6, .slice a0_10 (x9.1).length c0_10] _ rfl rfl rfl rfl hcall ?_
 rintro v w14 ⟨rfl, he14⟩
 clear hcall hx
 refine inl1 ?_
 have hst := Stp.ext (ls := [M]) he14
 replace hs_p0 := hs_p0.step hst
 replace hs_p1 := hs_p1.step hst
 replace hs_p2 := hs_p2.step hst
 replace hs_p3 := hs_p3.step hst
 replace hf6_1 := hf6_1.step hst
 replace hf6_2 := hf6_2.step hst
 replace hf10_1 := hf10_1.step hst
 replace hf10_2 := hf10_2.step hst
 replace hms := hms.ev he14
 replace hev := hev.ext he14
 clear hpk hsb hsb0
 refine x_pure 1 [(32, .bool x13)] _ _ _ (by kernel_rfl) ?_
 refine x_split 32 x13 rfl (fun hb => ?_) (fun hb => ?_)
 · replace h := ite_t hb h
   refine x_pure 2 [(33, .slice a2_6 (x5.2.1).length c2_6), (34, .slice a2_10 (x9.2.1).length c2_10)] _ _ _ (by kernel_rfl) ?_
   obtain ⟨x15, hx, h⟩ := bind_some h
   have hpk : MS w14 ([] ++ [M]) := hms.pick [some 0] _ rfl
   have hsb0 : ∀ x ∈ fl ([] ++ [M]), x ∈ fl [M] := pick_sub [some 0] _ rfl
   have hsb : ∀ x ∈ fl ([] ++ [(fl [M])]), x ∈ fl [M] := fun x hx => hsb0 x (fl_unfold x hx)
   have hcall := gen_Ints_w a2_6 c2_6 x5.2.1 a2_10 c2_10 x9.2.1 _ w14 (fl [M]) (MS.fold (P := []) hpk) (hf6_2.sub hsb) (hf10_2.sub hsb) hx
   refine x_call 25 #[] #[] [.slice a2_6 (x5.2.1).length c2_6, .slice a2_10 (x9.2.1).length c2_10] _ rfl rfl rfl rfl hcall ?_
   rintro v w16 ⟨rfl, he16⟩
   clear hcall hx
   refine inl1 ?_
   have hst := Stp.ext (ls := [M]) he16
   replace hs_p0 := hs_p0.step hst
   replace hs_p1 := hs_p1.step hst
   replace hs_p2 := hs_p2.step hst
   replace hs_p3 := hs_p3.step hst
   replace hf6_1 := hf6_1.step hst
   replace hf6_2 := hf6_2.step hst
   replace hf10_1 := hf10_1.step hst
   replace hf10_2 := hf10_2.step hst
   replace hms := hms.ev he16
   replace hev := hev.ext he16
   clear hpk hsb hsb0
   refine x_pure 2 [(36, .bool x15), (37, .bool x15)] _ _ _ (by kernel_rfl) ?_
   refine x_split 37 x15 rfl (fun hb => ?_) (fun hb => ?_)
   · replace h := ite_t hb h
     refine x_pure 5 [(38, Vi x5.2.2), (39, Vi x9.2.2), (40, .bool (x5.2.2 == x9.2.2)), (41, .bool (x5.2.2 == x9.2.2)), (42, .bool (x5.2.2 == x9.2.2))] _ _ _ (by kernel_rfl) ?_
     refine x_split 42 (x5.2.2 == x9.2.2) rfl (fun hb => ?_) (fun hb => ?_)
     · replace h := ite_t hb h
       refine x_pure 3 [(43, .slice a_p0 (p0).length c_p0), (44, .slice a_p1 (p1).length c_p1), (45, .slice a_p2 (p2).length c_p2)] _ _ _ (by kernel_rfl) ?_
       obtain ⟨x17, hx, h⟩ := bind_some h
       have hpk : MS w16 ([] ++ [M]) := hms.pick [some 0] _ rfl
       have hsb0 : ∀ x ∈ fl ([] ++ [M]), x ∈ fl [M] := pick_sub [some 0] _ rfl
       have hsb : ∀ x ∈ fl ([] ++ [(fl [M])]), x ∈ fl [M] := fun x hx => hsb0 x (fl_unfold x hx)
       have hcall := assign_Fits_w a_p0 c_p0 p0 a_p1 c_p1 p1 a_p2 c_p2 p2 _ w16 (fl [M]) (MS.fold (P := []) hpk) (hs_p0.sub hsb) (hs_p1.sub hsb) (hs_p2.sub hsb) hx
       refine x_call 11 #[] #[] [.slice a_p0 (p0).length c_p0, .slice a_p1 (p1).length c_p1, .slice a_p2 (p2).length c_p2] _ rfl rfl rfl rfl hcall ?_
       rintro v w18 ⟨rfl, he18⟩
       clear hcall hx
       refine inl1 ?_
       have hst := Stp.ext (ls := [M]) he18
       replace hs_p0 := hs_p0.step hst
       replace hs_p1 := hs_p1.step hst
       replace hs_p2 := hs_p2.step hst
       replace hs_p3 := hs_p3.step hst
       replace hf6_1 := hf6_1.step hst
       replace hf6_2 := hf6_2.step hst
       replace hf10_1 := hf10_1.step hst
       replace hf10_2 := hf10_2.step hst
       replace hms := hms.ev he18
       replace hev := hev.ext he18
       clear hpk hsb hsb0
       refine x_pure 3 [(47, .slice a_p0 (p0).length c_p0), (48, .slice a_p1 (p1).length c_p1), (49, .slice a_p2 (p2).length c_p2)] _ _ _ (by kernel_rfl) ?_
       obtain ⟨x19, hx, h⟩ := bind_some h
       have hpk : MS w18 ([] ++ [M]) := hms.pick [some 0] _ rfl
       have hsb0 : ∀ x ∈ fl ([] ++ [M]), x ∈ fl [M] := pick_sub [some 0] _ rfl
       have hsb : ∀ x ∈ fl ([] ++ [(fl [M])]), x ∈ fl [M] := fun x hx => hsb0 x (fl_unfold x hx)
       have hcall := r16_Fits_w a_p0 c_p0 p0 a_p1 c_p1 p1 a_p2 c_p2 p2 _ w18 (fl [M]) (MS.fold (P := []) hpk) (hs_p0.sub hsb) (hs_p1.sub hsb) (hs_p2.sub hsb) hx
       refine x_call 27 #[] #[] [.slice a_p0 (p0).length c_p0, .slice a_p1 (p1).length c_p1, .slice a_p2 (p2).length c_p2] _ rfl rfl rfl rfl hcall ?_
       rintro v w20 ⟨rfl, he20⟩
       clear hcall hx
       refine inl1 ?_
       have hst := Stp.ext (ls := [M]) he20
       replace hs_p0 := hs_p0.step hst
       replace hs_p1 := hs_p1.step hst
       replace hs_p2 := hs_p2.step hst
       replace hs_p3 := hs_p3.step hst
       replace hf6_1 := hf6_1.step hst
       replace hf6_2 := hf6_2.step hst
       replace hf10_1 := hf10_1.step hst
       replace hf10_2 := hf10_2.step hst
       replace hms := hms.ev he20
       replace hev := hev.ext he20
       clear hpk hsb hsb0
       refine x_binop (.bool (x17 == x19)) (.bool x17) (.bool x19) rfl rfl rfl rfl (vb_booleql tbool4) ?_
       refine x_pure 2 [(52, .bool (x17 == x19)), (53, .bool (x17 == x19))] _ _ _ (by kernel_rfl) ?_
       refine x_split 53 (x17 == x19) rfl (fun hb => ?_) (fun hb => ?_)
       · replace h := ite_t hb h
         refine x_pure 3 [(54, .slice a_p0 (p0).length c_p0), (55, .slice a_p1 (p1).length c_p1), (56, .slice a_p3 (p3).length c_p3)] _ _ _ (by kernel_rfl) ?_
         obtain ⟨x21, hx, h⟩ := bind_some h
         have hpk : MS w20 ([] ++ [M]) := hms.pick [some 0] _ rfl
         have hsb0 : ∀ x ∈ fl ([] ++ [M]), x ∈ fl [M] := pick_sub [some 0] _ rfl
         have hsb : ∀ x ∈ fl ([] ++ [(fl [M])]), x ∈ fl [M] := fun x hx => hsb0 x (fl_unfold x hx)
         have hcall := assign_Refuses_w a_p0 c_p0 p0 a_p1 c_p1 p1 a_p3 c_p3 p3 _ w20 (fl [M]) (MS.fold (P := []) hpk) (hs_p0.sub hsb) (hs_p1.sub hsb) (hs_p3.sub hsb) hx
         refine x_call 10 #[] #[] [.slice a_p0 (p0).length c_p0, .slice a_p1 (p1).length c_p1, .slice a_p3 (p3).length c_p3] _ rfl rfl rfl rfl hcall ?_
         rintro v w22 ⟨rfl, he22⟩
         clear hcall hx
         refine inl1 ?_
         have hst := Stp.ext (ls := [M]) he22
         replace hs_p0 := hs_p0.step hst
         replace hs_p1 := hs_p1.step hst
         replace hs_p2 := hs_p2.step hst
         replace hs_p3 := hs_p3.step hst
         replace hf6_1 := hf6_1.step hst
         replace hf6_2 := hf6_2.step hst
         replace hf10_1 := hf10_1.step hst
         replace hf10_2 := hf10_2.step hst
         replace hms := hms.ev he22
         replace hev := hev.ext he22
         clear hpk hsb hsb0
         refine x_pure 3 [(58, .slice a_p0 (p0).length c_p0), (59, .slice a_p1 (p1).length c_p1), (60, .slice a_p3 (p3).length c_p3)] _ _ _ (by kernel_rfl) ?_
         obtain ⟨x23, hx, h⟩ := bind_some h
         have hpk : MS w22 ([] ++ [M]) := hms.pick [some 0] _ rfl
         have hsb0 : ∀ x ∈ fl ([] ++ [M]), x ∈ fl [M] := pick_sub [some 0] _ rfl
         have hsb : ∀ x ∈ fl ([] ++ [(fl [M])]), x ∈ fl [M] := fun x hx => hsb0 x (fl_unfold x hx)
         have hcall := r16_Refuses_w a_p0 c_p0 p0 a_p1 c_p1 p1 a_p3 c_p3 p3 _ w22 (fl [M]) (MS.fold (P := []) hpk) (hs_p0.sub hsb) (hs_p1.sub hsb) (hs_p3.sub hsb) hx
         refine x_call 28 #[] #[] [.slice a_p0 (p0).length c_p0, .slice a_p1 (p1).length c_p1, .slice a_p3 (p3).length c_p3] _ rfl rfl rfl rfl hcall ?_
         rintro v w24 ⟨rfl, he24⟩
         clear hcall hx
         refine inl1 ?_
         have hst := Stp.ext (ls := [M]) he24
         replace hs_p0 := hs_p0.step hst
         replace hs_p1 := hs_p1.step hst
         replace hs_p2 := hs_p2.step hst
         replace hs_p3 := hs_p3.step hst
         replace hf6_1 := hf6_1.step hst
         replace hf6_2 := hf6_2.step hst
         replace hf10_1 := hf10_1.step hst
         replace hf10_2 := hf10_2.step hst
         replace hms := hms.ev he24
         replace hev := hev.ext he24
         clear hpk hsb hsb0
         refine x_binop (.bool (x21 == x23)) (.bool x21) (.bool x23) rfl rfl rfl rfl (vb_booleql tbool4) ?_
         refine x_pure 2 [(63, .bool (x21 == x23)), (8, .bool (x21 == x23))] _ _ _ (by kernel_rfl) ?_
         refine x_ek ?_
         refine c_norm [(8, .bool (x21 == x23))] ⟨rfl, trivial⟩ (fun J => ?_)
         refine c_ret ?_
         refine r_ret (r_vals [.bool (x21 == x23)] ⟨rfl, trivial⟩ ?_)
         have hx := some_inj h
         subst hx
         have hmr : MS w24 [M] := hms.pick [some 0] _ rfl
         have hsu : ∀ x ∈ fl [M], x ∈ fl [M] := pick_sub [some 0] _ rfl
         exact ⟨rfl, hev⟩
       replace h := ite_f hb h
       refine x_pure 11 [(54, undef), (55, undef), (56, undef), (57, undef), (58, undef), (59, undef), (60, undef), (61, undef), (62, undef), (63, .bool false), (8, .bool false)] _ _ _ (by kernel_rfl) ?_
       refine x_ek ?_
       refine c_norm [(8, .bool false)] ⟨rfl, trivial⟩ (fun J => ?_)
       refine c_ret ?_
       refine r_ret (r_vals [.bool false] ⟨rfl, trivial⟩ ?_)
       have hx := some_inj h
       subst hx
       have hmr : MS w20 [M] := hms.pick [some 0] _ rfl
       have hsu : ∀ x ∈ fl [M], x ∈ fl [M] := pick_sub [some 0] _ rfl
       exact ⟨rfl, hev⟩
     replace h := ite_f hb h
     refine x_pure 22 [(43, undef), (44, undef), (45, undef), (46, undef), (47, undef), (48, undef), (49, undef), (50, undef), (51, undef), (52, .bool false), (53, .bool false), (54, undef), (55, undef), (56, undef), (57, undef), (58, undef), (59, undef), (60, undef), (61, undef), (62, undef), (63, .bool false), (8, .bool false)] _ _ _ (by kernel_rfl) ?_
     refine x_ek ?_
     refine c_norm [(8, .bool false)] ⟨rfl, trivial⟩ (fun J => ?_)
     refine c_ret ?_
     refine r_ret (r_vals [.bool false] ⟨rfl, trivial⟩ ?_)
     have hx := some_inj h
     subst hx
     have hmr : MS w16 [M] := hms.pick [some 0] _ rfl
     have hsu : ∀ x ∈ fl [M], x ∈ fl [M] := pick_sub [some 0] _ rfl
     exact ⟨rfl, hev⟩
   replace h := ite_f hb h
   refine x_pure 27 [(38, undef), (39, undef), (40, undef), (41, .bool false), (42, .bool false), (43, undef), (44, undef), (45, undef), (46, undef), (47, undef), (48, undef), (49, undef), (50, undef), (51, undef), (52, .bool false), (53, .bool false), (54, undef), (55, undef), (56, undef), (57, undef), (58, undef), (59, undef), (60, undef), (61, undef), (62, undef), (63, .bool false), (8, .bool false)] _ _ _ (by kernel_rfl) ?_
   refine x_ek ?_
   refine c_norm [(8, .bool false)] ⟨rfl, trivial⟩ (fun J => ?_)
   refine c_ret ?_
   refine r_ret (r_vals [.bool false] ⟨rfl, trivial⟩ ?_)
   have hx := some_inj h
   subst hx
   have hmr : MS w16 [M] := hms.pick [some 0] _ rfl
   have hsu : ∀ x ∈ fl [M], x ∈ fl [M] := pick_sub [some 0] _ rfl
   exact ⟨rfl, hev⟩
 replace h := ite_f hb h
 refine x_pure 32 [(33, undef), (34, undef), (35, undef), (36, .bool false), (37, .bool false), (38, undef), (39, undef), (40, undef), (41, .bool false), (42, .bool false), (43, undef), (44, undef), (45, undef), (46, undef), (47, undef), (48, undef), (49, undef), (50, undef), (51, undef), (52, .bool false), (53, .bool false), (54, undef), (55, undef), (56, undef), (57, undef), (58, undef), (59, undef), (60, undef), (61, undef), (62, undef), (63, .bool false), (8, .bool false)] _ _ _ (by kernel_rfl) ?_
 refine x_ek ?_
 refine c_norm [(8, .bool false)] ⟨rfl, trivial⟩ (fun J => ?_)
 refine c_ret ?_
 refine r_ret (r_vals [.bool false] ⟨rfl, trivial⟩ ?_)
 have hx := some_inj h
 subst hx
 have hmr : MS w14 [M] := hms.pick [some 0] _ rfl
 have hsu : ∀ x ∈ fl [M], x ∈ fl [M] := pick_sub [some 0] _ rfl
 exact ⟨rfl, hev⟩
end Go.Proofs.Ytdbomhhcebmkpaa
