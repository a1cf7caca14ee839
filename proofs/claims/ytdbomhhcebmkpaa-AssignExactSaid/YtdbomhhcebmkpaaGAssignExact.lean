/- Walks, printed by program: each function returns what the partial function of the same name returns. Conditions: those of each theorem. -/
import Derived.Test.YtdbomhhcebmkpaaGT
import Derived.Test.YtdbomhhcebmkpaaGgen
import Derived.Test.YtdbomhhcebmkpaaGlaw16exact
import Derived.Test.YtdbomhhcebmkpaaGlaw16lists
import Derived.Test.YtdbomhhcebmkpaaGlaw16sane
import Derived.Test.YtdbomhhcebmkpaaGr16
set_option linter.unusedVariables false
set_option linter.unusedSimpArgs false
set_option maxRecDepth 4000
namespace Go.Proofs.Ytdbomhhcebmkpaa
open Go Go.V Go.Proofs
def law16_AssignExact_J49 (i_s12_l11 : Int) (x13 : (List Int) × (List Int) × Int) (d22_j27 : List Int) (d25_j38 : List Int) (e8_j49_1 : Int) (d16_j49 : List Int) : Option (Step (Int × Int) (Unit ⊕ Unit)) :=
((law16_exact x13.1 d16_j49 d22_j27 d25_j38).bind fun x62 =>
(if (!x62) = true then
some (.done (.inl ()))
else
some (.next (e8_j49_1, IntKind.i64.wrap (i_s12_l11 + 1)))))

def law16_AssignExact_J50 (x6 : ((List Int) × Int)) (i_s12_l11 : Int) (x13 : (List Int) × (List Int) × Int) (d22_j27 : List Int) (e8_j38_1 : Int) (d25_j38 : List Int) (t82__s82_j50 : Bool) : Option (Step (Int × Int) (Unit ⊕ Unit)) :=
(if t82__s82_j50 = true then
((gen_Maker_Next x6.1 e8_j38_1 ((x13.2.1).length : Int)).bind fun x51 =>
((gen_Maker_Pick x6.1 x51.2 ([0, (-1), 38400, 38401])).bind fun x55 =>
((idx x13.2.1 x51.1).bind fun x57 =>
law16_AssignExact_J49 i_s12_l11 x13 d22_j27 d25_j38 x55.2 (x13.2.1.set (Int.toNat x51.1) x55.1))))
else
law16_AssignExact_J49 i_s12_l11 x13 d22_j27 d25_j38 e8_j38_1 x13.2.1)

def law16_AssignExact_J38 (x6 : ((List Int) × Int)) (i_s12_l11 : Int) (x13 : (List Int) × (List Int) × Int) (d22_j27 : List Int) (e8_j38_1 : Int) (d25_j38 : List Int) : Option (Step (Int × Int) (Unit ⊕ Unit)) :=
(if (i_s12_l11 == 4) = true then
law16_AssignExact_J50 x6 i_s12_l11 x13 d22_j27 e8_j38_1 d25_j38 (decide (((x13.2.1).length : Int) > 0))
else
law16_AssignExact_J50 x6 i_s12_l11 x13 d22_j27 e8_j38_1 d25_j38 false)

def law16_AssignExact_J39 (x6 : ((List Int) × Int)) (i_s12_l11 : Int) (x13 : (List Int) × (List Int) × Int) (x17 : (List Int) × (List Int) × Int) (e8_j27_1 : Int) (d22_j27 : List Int) (t65__s65_j39 : Bool) : Option (Step (Int × Int) (Unit ⊕ Unit)) :=
(if t65__s65_j39 = true then
((gen_Maker_Next x6.1 e8_j27_1 (((([] : List Int) ++ x17.2.1)).length : Int)).bind fun x40 =>
((gen_Maker_From x6.1 x40.2 (-1) ((x13.1).length : Int)).bind fun x42 =>
((idx (([] : List Int) ++ x17.2.1) x40.1).bind fun x44 =>
law16_AssignExact_J38 x6 i_s12_l11 x13 d22_j27 x42.2 ((([] : List Int) ++ x17.2.1).set (Int.toNat x40.1) x42.1))))
else
law16_AssignExact_J38 x6 i_s12_l11 x13 d22_j27 e8_j27_1 (([] : List Int) ++ x17.2.1))

def law16_AssignExact_J27 (x6 : ((List Int) × Int)) (i_s12_l11 : Int) (x13 : (List Int) × (List Int) × Int) (x17 : (List Int) × (List Int) × Int) (e8_j27_1 : Int) (d22_j27 : List Int) : Option (Step (Int × Int) (Unit ⊕ Unit)) :=
(if (decide (i_s12_l11 > 1)) = true then
law16_AssignExact_J39 x6 i_s12_l11 x13 x17 e8_j27_1 d22_j27 (decide ((((([] : List Int) ++ x17.2.1)).length : Int) > 0))
else
law16_AssignExact_J39 x6 i_s12_l11 x13 x17 e8_j27_1 d22_j27 false)

def law16_AssignExact_J28 (x6 : ((List Int) × Int)) (i_s12_l11 : Int) (x13 : (List Int) × (List Int) × Int) (x17 : (List Int) × (List Int) × Int) (t48__s48_j28 : Bool) : Option (Step (Int × Int) (Unit ⊕ Unit)) :=
(if t48__s48_j28 = true then
((gen_Maker_Next x6.1 x13.2.2 (((([] : List Int) ++ x17.1)).length : Int)).bind fun x29 =>
((gen_Maker_From x6.1 x29.2 (-1) ((x13.2.1).length : Int)).bind fun x31 =>
((idx (([] : List Int) ++ x17.1) x29.1).bind fun x33 =>
law16_AssignExact_J27 x6 i_s12_l11 x13 x17 x31.2 ((([] : List Int) ++ x17.1).set (Int.toNat x29.1) x31.1))))
else
law16_AssignExact_J27 x6 i_s12_l11 x13 x17 x13.2.2 (([] : List Int) ++ x17.1))

def law16_AssignExact_L11 (x6 : ((List Int) × Int)) (s : Int × Int) : Option (Step (Int × Int) (Unit ⊕ Unit)) :=
match s with
| (e8_l11_1, i_s12_l11) =>
(if (decide (i_s12_l11 < 5)) = true then
((law16_lists x6.1 e8_l11_1 6).bind fun x13 =>
((r16_Match x13.1 x13.2.1).bind fun x17 =>
(if ([] : List Int).length + x17.1.length ≤ 4294967296 then
(if ([] : List Int).length + x17.2.1.length ≤ 4294967296 then
(if (decide (i_s12_l11 > 1)) = true then
law16_AssignExact_J28 x6 i_s12_l11 x13 x17 (decide ((((([] : List Int) ++ x17.1)).length : Int) > 0))
else
law16_AssignExact_J28 x6 i_s12_l11 x13 x17 false)
else none)
else none)))
else
some (.done (.inr ())))

def law16_AssignExact (p0 : List Int) (p1 : List Int) (p2 : List Int) (p3 : List Int) (p4 : List Int) : Option Bool :=
((gen_New p0).bind fun x6 =>
((loop (law16_AssignExact_L11 x6) (x6.2, 0)).bind fun d => match d with
| (.inl _) => some false
| (.inr _) => (if (decide ((IntKind.i64.wrap ((IntKind.i64.wrap ((IntKind.i64.wrap (((p1).length : Int) + ((p2).length : Int))) + ((p3).length : Int))) + ((p4).length : Int))) > 200)) = true then
some true
else
((law16_exact p1 p2 p3 p4).bind fun x64 =>
(if x64 = true then
((law16_sane).bind fun x66 =>
some x66)
else
some false)))))

theorem law16_AssignExact_w (a_p0 : Option Addr) (c_p0 : Nat) (p0 : List Int) (a_p1 : Option Addr) (c_p1 : Nat) (p1 : List Int) (a_p2 : Option Addr) (c_p2 : Nat) (p2 : List Int) (a_p3 : Option Addr) (c_p3 : Nat) (p3 : List Int) (a_p4 : Option Addr) (c_p4 : Nat) (p4 : List Int) (r : Bool) (w : World) (M : List Nat) (hms : MS w [M]) (hs_p0 : SlR (eInt .i64) w (fl [M]) a_p0 c_p0 p0) (hs_p1 : SlR (eInt .i64) w (fl [M]) a_p1 c_p1 p1) (hs_p2 : SlR (eInt .i64) w (fl [M]) a_p2 c_p2 p2) (hs_p3 : SlR (eInt .i64) w (fl [M]) a_p3 c_p3 p3) (hs_p4 : SlR (eInt .i64) w (fl [M]) a_p4 c_p4 p4) (h : law16_AssignExact p0 p1 p2 p3 p4 = some r) : CallVC Try.prog 4 [.slice a_p0 (p0).length c_p0, .slice a_p1 (p1).length c_p1, .slice a_p2 (p2).length c_p2, .slice a_p3 (p3).length c_p3, .slice a_p4 (p4).length c_p4] w fun v w' => v = .bool r ∧ Ev [] w w' := by
 refine calls_vc hmx Try.func4 (by kernel_rfl) rfl (rs := [.tmp 10]) rfl (by kernel_rfl) (args := [.slice a_p0 (p0).length c_p0, .slice a_p1 (p1).length c_p1, .slice a_p2 (p2).length c_p2, .slice a_p3 (p3).length c_p3, .slice a_p4 (p4).length c_p4]) rfl ?_
 have hev : Ev [] w w := Ev.refl _ _
 have hfr : FR w.heap.size [] := FR.nil _
 refine c_sp ?_
 refine x_pure 1 [(10, .bool false)] _ _ _ (by kernel_rfl) ?_
 refine x_ek ?_
 refine c_sp ?_
 refine x_pure 1 [(18, .slice a_p0 (p0).length c_p0)] _ _ _ (by kernel_rfl) ?_
 obtain ⟨x6, hx, h⟩ := bind_some h
 have hpk : MS w ([] ++ [M]) := hms.pick [some 0] _ rfl
 have hsb0 : ∀ x ∈ fl ([] ++ [M]), x ∈ fl [M] := pick_sub [some 0] _ rfl
 have hsb : ∀ x ∈ fl ([] ++ [(fl [M])]), x ∈ fl [M] := fun x hx => hsb0 x (fl_unfold x hx)
 have hcall := gen_New_w a_p0 c_p0 p0 _ w (fl [M]) (MS.fold (P := []) hpk) (hs_p0.sub hsb) hx
 refine x_call 12 #[] #[] [.slice a_p0 (p0).length c_p0] _ rfl rfl rfl rfl hcall ?_
 rintro v w7 ⟨b0_7, a1_7, c1_7, rfl, he7, hmn7, hfn7, hf7_1, hf7_2⟩
 clear hcall hx
 refine inl1 ?_
 have hpk2 : MS w ([] ++ [M]) := hms.pick [some 0] _ rfl
 have hsb2 : ∀ x ∈ fl ([] ++ [M]), x ∈ fl [M] := pick_sub [some 0] _ rfl
 have hst0 := Stp.call (LS := [M]) (res := [[b0_7]]) (par := []) (R := [M]) he7 (fun b hb => hsb2 b (fl_left' (P := []) b hb)) hfn7 (NP.init _ _) (fun x hx => hsb2 x (fl_right' (P := []) x hx))
 have hsn : ∀ x ∈ fl [[b0_7], M], x ∈ fl ([[b0_7]] ++ ([] ++ [M])) := pick_sub [some 0, some 1] _ rfl
 have hst := hst0.res hsn
 replace hs_p0 := hs_p0.step hst
 replace hs_p1 := hs_p1.step hst
 replace hs_p2 := hs_p2.step hst
 replace hs_p3 := hs_p3.step hst
 replace hs_p4 := hs_p4.step hst
 replace hms : MS w7 [[b0_7], M] := (MS.call (P := []) (R := [M]) (res := [[b0_7]]) (par := []) hpk2 he7 hmn7 hfn7 (NP.init _ _)).pick [some 0, some 1] _ rfl
 have hfr2 : FR w.heap.size [[b0_7]] := (FR.cons (fun b hb => Nat.le_trans hev.size (hfn7.at 0 rfl b hb)) (FR.nil _))
 replace hev := hev.ext he7
 replace hfr := hfr2
 clear hfr2
 have hsp : ∀ x ∈ fl [[b0_7], M], x ∈ fl ([[b0_7]] ++ ([] ++ [(fl [M])])) := fun x hx => fl_tot (res := [[b0_7]]) (par := []) (R := [M]) x (hsn x hx)
 replace hf7_2 := hf7_2.sub hsp
 clear hpk hsb hsb0 hpk2 hsb2 hst0 hsn hst
 refine x_pure 1 [(11, Vp b0_7 0)] _ _ _ (by kernel_rfl) ?_
 refine x_ek ?_
 refine c_seq ?_
 refine c_sp ?_
 refine x_pure 1 [(12, Vi 0)] _ _ _ (by kernel_rfl) ?_
 refine x_ek ?_
 refine c_block ?_
 obtain ⟨d11, hd11, h11⟩ := bind_some h
 obtain ⟨m11, hd11⟩ := loop_some hd11
 refine c_loop (loop_rule hmx (σ := Nat × Int × Int) (fun s => match s with | (_, e8_l11_1, i_s12_l11) => [(1, .slice a_p1 (p1).length c_p1), (2, .slice a_p2 (p2).length c_p2), (3, .slice a_p3 (p3).length c_p3), (4, .slice a_p4 (p4).length c_p4), (11, Vp b0_7 0), (12, Vi i_s12_l11)]) (fun s w' => match s with | (m, e8_l11_1, i_s12_l11) => loopN (law16_AssignExact_L11 x6) m (e8_l11_1, i_s12_l11) = some d11 ∧ Ev [] w w' ∧ MS w' [[b0_7], M] ∧ FR w.heap.size [[b0_7]] ∧ SlR (eInt .i64) w' (fl [[b0_7], M]) a_p1 c_p1 p1 ∧ SlR (eInt .i64) w' (fl [[b0_7], M]) a_p2 c_p2 p2 ∧ SlR (eInt .i64) w' (fl [[b0_7], M]) a_p3 c_p3 p3 ∧ SlR (eInt .i64) w' (fl [[b0_7], M]) a_p4 c_p4 p4 ∧ SlR (eInt .i64) w' (fl [[b0_7], M]) a1_7 c1_7 x6.1 ∧ w'.heap[b0_7]? = some (.cells #[.slice a1_7 (x6.1).length c1_7, Vi e8_l11_1] 46 (0, 0))) (fun s => s.1) (m11, x6.2, 0) ⟨rfl, rfl, rfl, rfl, rfl, rfl, trivial⟩ ⟨hd11, hev, hms, hfr, hs_p1, hs_p2, hs_p3, hs_p4, hf7_2, hf7_1⟩ ?_)
 rintro ⟨m11, e8_l11_1, i_s12_l11⟩ J wl11 ⟨hn11, hev, hms, hfr, hs_p1, hs_p2, hs_p3, hs_p4, hf7_2, hf7_1⟩
 rcases m11 with _ | m11
 · exact (loopN_zero hn11).elim
 obtain ⟨t11, h, hn11⟩ := bind_some hn11
 refine c_seq ?_
 refine c_sp ?_
 refine x_pure 2 [(20, Vi i_s12_l11), (21, .bool (decide (i_s12_l11 < 5)))] _ _ _ (by kernel_rfl) ?_
 refine x_ek ?_
 refine c_norm [(1, .slice a_p1 (p1).length c_p1), (2, .slice a_p2 (p2).length c_p2), (3, .slice a_p3 (p3).length c_p3), (4, .slice a_p4 (p4).length c_p4), (11, Vp b0_7 0), (12, Vi i_s12_l11), (21, .bool (decide (i_s12_l11 < 5)))] ⟨rfl, rfl, rfl, rfl, rfl, rfl, rfl, trivial⟩ (fun J => ?_)
 refine c_cond (decide (i_s12_l11 < 5)) rfl (fun hb => ?_) (fun hb => ?_)
 · replace h := ite_t hb h
   refine c_skip ?_
   refine k_then ?_
   refine c_seq ?_
   refine c_block ?_
   refine c_sp ?_
   refine x_pure 1 [(25, Vp b0_7 0)] _ _ _ (by kernel_rfl) ?_
   obtain ⟨x13, hx, h⟩ := bind_some h
   have hpk : MS wl11 ([[b0_7]] ++ [M]) := hms.pick [some 0, some 1] _ rfl
   have hsb0 : ∀ x ∈ fl ([[b0_7]] ++ [M]), x ∈ fl [[b0_7], M] := pick_sub [some 0, some 1] _ rfl
   have hsb : ∀ x ∈ fl ([[b0_7]] ++ [(fl [M])]), x ∈ fl [[b0_7], M] := fun x hx => hsb0 x (fl_unfold x hx)
   have hcall := law16_lists_w b0_7 a1_7 c1_7 x6.1 e8_l11_1 6 _ wl11 (fl [M]) (hpk.fold (P := [[b0_7]])) (hf7_2.sub hsb) hf7_1 hx
   refine x_call 13 #[] #[] [Vp b0_7 0, Vi 6] _ rfl rfl rfl rfl hcall ?_
   rintro v w14 ⟨a0_14, c0_14, a2_14, c2_14, rfl, he14, hp14_0, hmn14, hfn14, hf14_1, hf14_2⟩
   clear hcall hx
   refine inl1 ?_
   have hpk2 : MS wl11 ([[b0_7]] ++ [M]) := hms.pick [some 0, some 1] _ rfl
   have hsb2 : ∀ x ∈ fl ([[b0_7]] ++ [M]), x ∈ fl [[b0_7], M] := pick_sub [some 0, some 1] _ rfl
   have hst0 := Stp.call (LS := [[b0_7], M]) (res := [blk a0_14, blk a2_14]) (par := [[b0_7]]) (R := [M]) he14 (fun b hb => hsb2 b (fl_left' (P := [[b0_7]]) b hb)) hfn14 (NP.init _ _) (fun x hx => hsb2 x (fl_right' (P := [[b0_7]]) x hx))
   have hsn : ∀ x ∈ fl [blk a0_14, blk a2_14, [b0_7], M], x ∈ fl ([blk a0_14, blk a2_14] ++ ([[b0_7]] ++ [M])) := pick_sub [some 0, some 1, some 2, some 3] _ rfl
   have hst := hst0.res hsn
   replace hs_p1 := hs_p1.step hst
   replace hs_p2 := hs_p2.step hst
   replace hs_p3 := hs_p3.step hst
   replace hs_p4 := hs_p4.step hst
   replace hf7_2 := hf7_2.step hst
   replace hms : MS w14 [blk a0_14, blk a2_14, [b0_7], M] := (MS.call (P := [[b0_7]]) (R := [M]) (res := [blk a0_14, blk a2_14]) (par := [[b0_7]]) hpk2 he14 hmn14 hfn14 (NP.init _ _)).pick [some 0, some 1, some 2, some 3] _ rfl
   have hPf : ∀ b ∈ fl [[b0_7]], w.heap.size ≤ b := FR.mem (ls := [[b0_7]]) (hfr.pick [some 0] _ rfl)
   have hfr2 : FR w.heap.size [blk a0_14, blk a2_14, [b0_7]] := (FR.cons (fun b hb => Nat.le_trans hev.size (hfn14.at 0 rfl b hb)) (FR.cons (fun b hb => Nat.le_trans hev.size (hfn14.at 1 rfl b hb)) (FR.cons (hfr.at 0 rfl) (FR.nil _))))
   replace hev := hev.then he14 (fun b hb => .inr (hPf b hb))
   replace hfr := hfr2
   clear hfr2
   replace hf7_1 := hp14_0
   replace hf14_1 := OwnS.plain (M' := fl [blk a0_14, blk a2_14, [b0_7], M]) (plain_int _) hf14_1
   replace hf14_2 := OwnS.plain (M' := fl [blk a0_14, blk a2_14, [b0_7], M]) (plain_int _) hf14_2
   clear hpk hsb hsb0 hpk2 hsb2 hst0 hsn hst
   have hpk : MS w14 [blk a2_14, [b0_7], M] := hms.pick [some 1, some 2, some 3] _ rfl
   have hsu : ∀ x ∈ fl [blk a2_14, [b0_7], M], x ∈ fl [blk a0_14, blk a2_14, [b0_7], M] := pick_sub [some 1, some 2, some 3] _ rfl
   replace hs_p1 := hs_p1.sub hsu
   replace hs_p2 := hs_p2.sub hsu
   replace hs_p3 := hs_p3.sub hsu
   replace hs_p4 := hs_p4.sub hsu
   replace hf7_2 := hf7_2.sub hsu
   replace hf14_1 := hf14_1.ro hsu (pick_out hms 0 rfl [some 1, some 2, some 3] [blk a2_14, [b0_7], M] rfl rfl)
   replace hf14_2 := hf14_2.sub hsu
   replace hms := hpk
   replace hfr : FR w.heap.size [blk a2_14, [b0_7]] := hfr.pick [some 1, some 2] _ rfl
   clear hpk hsu
   refine x_pure 5 [(24, .tuple #[.slice a0_14 (x13.1).length c0_14, .slice a2_14 (x13.2.1).length c2_14]), (27, .slice a0_14 (x13.1).length c0_14), (28, .slice a2_14 (x13.2.1).length c2_14), (13, .slice a0_14 (x13.1).length c0_14), (14, .slice a2_14 (x13.2.1).length c2_14)] _ _ _ (by kernel_rfl) ?_
   refine x_ek ?_
   refine c_sp ?_
   refine x_pure 2 [(30, .slice a0_14 (x13.1).length c0_14), (31, .slice a2_14 (x13.2.1).length c2_14)] _ _ _ (by kernel_rfl) ?_
   obtain ⟨x17, hx, h⟩ := bind_some h
   have hpk : MS w14 ([] ++ [[b0_7], M]) := hms.pick [some 1, some 2] _ rfl
   have hsb0 : ∀ x ∈ fl ([] ++ [[b0_7], M]), x ∈ fl [blk a2_14, [b0_7], M] := pick_sub [some 1, some 2] _ rfl
   have hsb : ∀ x ∈ fl ([] ++ [(fl [[b0_7], M])]), x ∈ fl [blk a2_14, [b0_7], M] := fun x hx => hsb0 x (fl_unfold x hx)
   have hcall := r16_Match_w a0_14 c0_14 x13.1 a2_14 c2_14 x13.2.1 _ w14 (fl [[b0_7], M]) (MS.fold (P := []) hpk) (hf14_1.sub hsb) (hf14_2.ro hsb (fun b hb hb2 => pick_out hms 0 rfl [some 1, some 2] ([] ++ [[b0_7], M]) rfl rfl b hb (fl_unfold b hb2))) hx
   refine x_call 14 #[] #[] [.slice a0_14 (x13.1).length c0_14, .slice a2_14 (x13.2.1).length c2_14] _ rfl rfl rfl rfl hcall ?_
   rintro v w18 ⟨a0_18, c0_18, a2_18, c2_18, rfl, he18, hmn18, hfn18, hf18_1, hf18_2⟩
   clear hcall hx
   refine inl1 ?_
   have hpk2 : MS w14 ([] ++ [blk a2_14, [b0_7], M]) := hms.pick [some 0, some 1, some 2] _ rfl
   have hsb2 : ∀ x ∈ fl ([] ++ [blk a2_14, [b0_7], M]), x ∈ fl [blk a2_14, [b0_7], M] := pick_sub [some 0, some 1, some 2] _ rfl
   have hst0 := Stp.call (LS := [blk a2_14, [b0_7], M]) (res := [blk a0_18, blk a2_18]) (par := []) (R := [blk a2_14, [b0_7], M]) he18 (fun b hb => hsb2 b (fl_left' (P := []) b hb)) hfn18 (NP.init _ _) (fun x hx => hsb2 x (fl_right' (P := []) x hx))
   have hsn : ∀ x ∈ fl [blk a0_18, blk a2_18, blk a2_14, [b0_7], M], x ∈ fl ([blk a0_18, blk a2_18] ++ ([] ++ [blk a2_14, [b0_7], M])) := pick_sub [some 0, some 1, some 2, some 3, some 4] _ rfl
   have hst := hst0.res hsn
   replace hs_p1 := hs_p1.step hst
   replace hs_p2 := hs_p2.step hst
   replace hs_p3 := hs_p3.step hst
   replace hs_p4 := hs_p4.step hst
   replace hf7_1 := he18.box hf7_1 ((MS.outs (P := []) hpk2 1 rfl) _ mem1)
   replace hf7_2 := hf7_2.step hst
   replace hf14_1 := hf14_1.step hst
   replace hf14_2 := hf14_2.step hst he18 (MS.outs (P := []) hpk2 0 rfl)
   replace hms : MS w18 [blk a0_18, blk a2_18, blk a2_14, [b0_7], M] := (MS.call (P := []) (R := [blk a2_14, [b0_7], M]) (res := [blk a0_18, blk a2_18]) (par := []) hpk2 he18 hmn18 hfn18 (NP.init _ _)).pick [some 0, some 1, some 2, some 3, some 4] _ rfl
   have hfr2 : FR w.heap.size [blk a0_18, blk a2_18, blk a2_14, [b0_7]] := (FR.cons (fun b hb => Nat.le_trans hev.size (hfn18.at 0 rfl b hb)) (FR.cons (fun b hb => Nat.le_trans hev.size (hfn18.at 1 rfl b hb)) (FR.cons (hfr.at 0 rfl) (FR.cons (hfr.at 1 rfl) (FR.nil _)))))
   replace hev := hev.ext he18
   replace hfr := hfr2
   clear hfr2
   replace hf18_1 := OwnS.plain (M' := fl [blk a0_18, blk a2_18, blk a2_14, [b0_7], M]) (plain_int _) hf18_1
   replace hf18_2 := OwnS.plain (M' := fl [blk a0_18, blk a2_18, blk a2_14, [b0_7], M]) (plain_int _) hf18_2
   clear hpk hsb hsb0 hpk2 hsb2 hst0 hsn hst
   have hpk : MS w18 [blk a2_18, blk a2_14, [b0_7], M] := hms.pick [some 1, some 2, some 3, some 4] _ rfl
   have hsu : ∀ x ∈ fl [blk a2_18, blk a2_14, [b0_7], M], x ∈ fl [blk a0_18, blk a2_18, blk a2_14, [b0_7], M] := pick_sub [some 1, some 2, some 3, some 4] _ rfl
   replace hs_p1 := hs_p1.sub hsu
   replace hs_p2 := hs_p2.sub hsu
   replace hs_p3 := hs_p3.sub hsu
   replace hs_p4 := hs_p4.sub hsu
   replace hf7_2 := hf7_2.sub hsu
   replace hf14_1 := hf14_1.sub hsu
   replace hf14_2 := hf14_2.sub hsu
   replace hf18_1 := hf18_1.ro hsu (pick_out hms 0 rfl [some 1, some 2, some 3, some 4] [blk a2_18, blk a2_14, [b0_7], M] rfl rfl)
   replace hf18_2 := hf18_2.sub hsu
   replace hms := hpk
   replace hfr : FR w.heap.size [blk a2_18, blk a2_14, [b0_7]] := hfr.pick [some 1, some 2, some 3] _ rfl
   clear hpk hsu
   have hpk : MS w18 [blk a2_14, [b0_7], M] := hms.pick [some 1, some 2, some 3] _ rfl
   have hsu : ∀ x ∈ fl [blk a2_14, [b0_7], M], x ∈ fl [blk a2_18, blk a2_14, [b0_7], M] := pick_sub [some 1, some 2, some 3] _ rfl
   replace hs_p1 := hs_p1.sub hsu
   replace hs_p2 := hs_p2.sub hsu
   replace hs_p3 := hs_p3.sub hsu
   replace hs_p4 := hs_p4.sub hsu
   replace hf7_2 := hf7_2.sub hsu
   replace hf14_1 := hf14_1.sub hsu
   replace hf14_2 := hf14_2.sub hsu
   replace hf18_1 := hf18_1.sub hsu
   replace hf18_2 := hf18_2.ro hsu (pick_out hms 0 rfl [some 1, some 2, some 3] [blk a2_14, [b0_7], M] rfl rfl)
   replace hms := hpk
   replace hfr : FR w.heap.size [blk a2_14, [b0_7]] := hfr.pick [some 1, some 2] _ rfl
   clear hpk hsu
   refine x_pure 7 [(29, .tuple #[.slice a0_18 (x17.1).length c0_18, .slice a2_18 (x17.2.1).length c2_18, Vi x17.2.2]), (33, .slice a0_18 (x17.1).length c0_18), (34, .slice a2_18 (x17.2.1).length c2_18), (35, Vi x17.2.2), (15, .slice a0_18 (x17.1).length c0_18), (16, .slice a2_18 (x17.2.1).length c2_18), (17, Vi x17.2.2)] _ _ _ (by kernel_rfl) ?_
   refine x_ek ?_
   refine c_norm [(1, .slice a_p1 (p1).length c_p1), (2, .slice a_p2 (p2).length c_p2), (3, .slice a_p3 (p3).length c_p3), (4, .slice a_p4 (p4).length c_p4), (11, Vp b0_7 0), (12, Vi i_s12_l11), (13, .slice a0_14 (x13.1).length c0_14), (14, .slice a2_14 (x13.2.1).length c2_14), (15, .slice a0_18 (x17.1).length c0_18), (16, .slice a2_18 (x17.2.1).length c2_18)] ⟨rfl, rfl, rfl, rfl, rfl, rfl, rfl, rfl, rfl, rfl, trivial⟩ (fun J => ?_)
   refine c_sp ?_
   refine x_buildSlice (vs := []) #[] 3 rfl rfl rfl (by kernel_rfl) (fun b21 w21 hq21 hb21 he21 hz21 => ?_)
   refine inl1 ?_
   obtain ⟨a21, ea21⟩ : ∃ a, a = some (⟨b21, 0, none⟩ : Addr) := ⟨_, rfl⟩
   have hw21 : ∀ M, OwnS (eInt .i64) 3 w21 M a21 0 ([] : List Int) := fun M => ea21 ▸ own_of_box hb21 (by decide) rfl rfl (cells_at (cs := []) CellsOf.nil)
   have hn21 : ∀ b ∈ blk a21, w18.heap.size ≤ b ∧ b < w21.heap.size := by subst ea21; intro b hb; simp only [blk, List.mem_singleton] at hb; subst hb; exact ⟨Nat.le_of_eq hq21.symm, lt_of_heap hb21⟩
   clear hb21
   have hst := Stp.push (ls := [blk a2_14, [b0_7], M]) (l := blk a21) he21 (fun _ h => by cases h) (fun b hb => (hn21 b hb).1)
   replace hs_p1 := hs_p1.step hst
   replace hs_p2 := hs_p2.step hst
   replace hs_p3 := hs_p3.step hst
   replace hs_p4 := hs_p4.step hst
   replace hf7_1 := he21.box hf7_1 nn
   replace hf7_2 := hf7_2.step hst
   replace hf14_1 := hf14_1.step hst
   replace hf14_2 := hf14_2.step hst he21 nn2
   replace hf18_1 := hf18_1.step hst
   replace hf18_2 := hf18_2.step hst
   replace hms := hms.push he21 hn21
   replace hfr := hfr.push (fun b hb => Nat.le_trans hev.size (hn21 b hb).1)
   replace hev := hev.ext he21
   have ho21 := hw21 (fl [blk a21, blk a2_14, [b0_7], M])
   clear hw21
   rw [← ea21]
   refine x_pure 1 [(37, .slice a0_18 (x17.1).length c0_18)] _ _ _ (by kernel_rfl) ?_
   have hg := guard_l h
   replace h := guard_r h
   obtain ⟨a23, c23, w23, hr23, he23, hn23, hm23, hw23⟩ := own_appendN tel22 22 ho21 (mem_flat 0 rfl) hf18_1 hg
   refine x_builtin (vs := [.slice a21 (([] : List Int)).length 0, .slice a0_18 (x17.1).length c0_18]) _ w23 rfl rfl rfl rfl (run_value _ _ _ _ hr23) ?_
   refine inl1 ?_
   have hst : Stp (fl [blk a21, blk a2_14, [b0_7], M]) w21 (fl [blk a23, blk a2_14, [b0_7], M]) w23 := Stp.upd 0 he23 rfl (fun b hb => (hn23 b hb).1)
   replace hs_p1 := hs_p1.step hst
   replace hs_p2 := hs_p2.step hst
   replace hs_p3 := hs_p3.step hst
   replace hs_p4 := hs_p4.step hst
   replace hf7_1 := he23.box hf7_1 (hms.apart 2 0 rfl rfl rfl _ mem1)
   replace hf7_2 := hf7_2.step hst
   replace hf14_1 := hf14_1.step hst
   replace hf14_2 := hf14_2.step hst he23 (hms.apart 1 0 rfl rfl rfl)
   replace hf18_1 := hf18_1.step hst
   replace hf18_2 := hf18_2.step hst
   replace hms : MS w23 [blk a23, blk a2_14, [b0_7], M] := hms.upd 0 he23 rfl hn23
   have hfr2 : FR w.heap.size [blk a23, blk a2_14, [b0_7]] := hfr.upd 0 rfl hev.size (fun b hb => (hn23 b hb).1)
   replace hev := hev.then he23 (fun b hb => .inr (hfr.at 0 rfl b hb))
   replace hfr := hfr2
   clear hfr2
   replace ho21 := hw23 (fl [blk a23, blk a2_14, [b0_7], M]) hst.new
   clear hw23
   refine x_buildSlice (vs := []) #[] 3 rfl rfl rfl (by kernel_rfl) (fun b24 w24 hq24 hb24 he24 hz24 => ?_)
   refine inl1 ?_
   obtain ⟨a24, ea24⟩ : ∃ a, a = some (⟨b24, 0, none⟩ : Addr) := ⟨_, rfl⟩
   have hw24 : ∀ M, OwnS (eInt .i64) 3 w24 M a24 0 ([] : List Int) := fun M => ea24 ▸ own_of_box hb24 (by decide) rfl rfl (cells_at (cs := []) CellsOf.nil)
   have hn24 : ∀ b ∈ blk a24, w23.heap.size ≤ b ∧ b < w24.heap.size := by subst ea24; intro b hb; simp only [blk, List.mem_singleton] at hb; subst hb; exact ⟨Nat.le_of_eq hq24.symm, lt_of_heap hb24⟩
   clear hb24
   have hst := Stp.push (ls := [blk a23, blk a2_14, [b0_7], M]) (l := blk a24) he24 (fun _ h => by cases h) (fun b hb => (hn24 b hb).1)
   replace hs_p1 := hs_p1.step hst
   replace hs_p2 := hs_p2.step hst
   replace hs_p3 := hs_p3.step hst
   replace hs_p4 := hs_p4.step hst
   replace hf7_1 := he24.box hf7_1 nn
   replace hf7_2 := hf7_2.step hst
   replace hf14_1 := hf14_1.step hst
   replace hf14_2 := hf14_2.step hst he24 nn2
   replace hf18_1 := hf18_1.step hst
   replace hf18_2 := hf18_2.step hst
   replace ho21 := ho21.step hst he24 nn2
   replace hms := hms.push he24 hn24
   replace hfr := hfr.push (fun b hb => Nat.le_trans hev.size (hn24 b hb).1)
   replace hev := hev.ext he24
   have ho24 := hw24 (fl [blk a24, blk a23, blk a2_14, [b0_7], M])
   clear hw24
   rw [← ea24]
   refine x_pure 1 [(40, .slice a2_18 (x17.2.1).length c2_18)] _ _ _ (by kernel_rfl) ?_
   have hg := guard_l h
   replace h := guard_r h
   obtain ⟨a26, c26, w26, hr26, he26, hn26, hm26, hw26⟩ := own_appendN tel22 22 ho24 (mem_flat 0 rfl) hf18_2 hg
   refine x_builtin (vs := [.slice a24 (([] : List Int)).length 0, .slice a2_18 (x17.2.1).length c2_18]) _ w26 rfl rfl rfl rfl (run_value _ _ _ _ hr26) ?_
   refine inl1 ?_
   have hst : Stp (fl [blk a24, blk a23, blk a2_14, [b0_7], M]) w24 (fl [blk a26, blk a23, blk a2_14, [b0_7], M]) w26 := Stp.upd 0 he26 rfl (fun b hb => (hn26 b hb).1)
   replace hs_p1 := hs_p1.step hst
   replace hs_p2 := hs_p2.step hst
   replace hs_p3 := hs_p3.step hst
   replace hs_p4 := hs_p4.step hst
   replace hf7_1 := he26.box hf7_1 (hms.apart 3 0 rfl rfl rfl _ mem1)
   replace hf7_2 := hf7_2.step hst
   replace hf14_1 := hf14_1.step hst
   replace hf14_2 := hf14_2.step hst he26 (hms.apart 2 0 rfl rfl rfl)
   replace hf18_1 := hf18_1.step hst
   replace hf18_2 := hf18_2.step hst
   replace ho21 := ho21.step hst he26 (hms.apart 1 0 rfl rfl rfl)
   replace hms : MS w26 [blk a26, blk a23, blk a2_14, [b0_7], M] := hms.upd 0 he26 rfl hn26
   have hfr2 : FR w.heap.size [blk a26, blk a23, blk a2_14, [b0_7]] := hfr.upd 0 rfl hev.size (fun b hb => (hn26 b hb).1)
   replace hev := hev.then he26 (fun b hb => .inr (hfr.at 0 rfl b hb))
   replace hfr := hfr2
   clear hfr2
   replace ho24 := hw26 (fl [blk a26, blk a23, blk a2_14, [b0_7], M]) hst.new
   clear hw26
   refine x_pure 2 [(15, .slice a23 ((([] : List Int) ++ x17.1)).length c23), (16, .slice a26 ((([] : List Int) ++ x17.2.1)).length c26)] _ _ _ (by kernel_rfl) ?_
   refine x_ek ?_
   refine c_join (σ := Int × (List Int)) (fun s => match s with | (e8_j27_1, d22_j27) => [(1, .slice a_p1 (p1).length c_p1), (2, .slice a_p2 (p2).length c_p2), (3, .slice a_p3 (p3).length c_p3), (4, .slice a_p4 (p4).length c_p4), (11, Vp b0_7 0), (12, Vi i_s12_l11), (13, .slice a0_14 (x13.1).length c0_14), (14, .slice a2_14 (x13.2.1).length c2_14), (15, .slice a23 (d22_j27).length c23), (16, .slice a26 ((([] : List Int) ++ x17.2.1)).length c26)]) (fun s w' => match s with | (e8_j27_1, d22_j27) => law16_AssignExact_J27 x6 i_s12_l11 x13 x17 e8_j27_1 d22_j27 = some t11 ∧ Ev [] w w' ∧ MS w' [[b0_7], blk a2_14, blk a23, blk a26, M] ∧ FR w.heap.size [[b0_7], blk a2_14, blk a23, blk a26] ∧ SlR (eInt .i64) w' (fl [[b0_7], blk a2_14, blk a23, blk a26, M]) a_p1 c_p1 p1 ∧ SlR (eInt .i64) w' (fl [[b0_7], blk a2_14, blk a23, blk a26, M]) a_p2 c_p2 p2 ∧ SlR (eInt .i64) w' (fl [[b0_7], blk a2_14, blk a23, blk a26, M]) a_p3 c_p3 p3 ∧ SlR (eInt .i64) w' (fl [[b0_7], blk a2_14, blk a23, blk a26, M]) a_p4 c_p4 p4 ∧ SlR (eInt .i64) w' (fl [[b0_7], blk a2_14, blk a23, blk a26, M]) a1_7 c1_7 x6.1 ∧ w'.heap[b0_7]? = some (.cells #[.slice a1_7 (x6.1).length c1_7, Vi e8_j27_1] 46 (0, 0)) ∧ SlR (eInt .i64) w' (fl [[b0_7], blk a2_14, blk a23, blk a26, M]) a0_14 c0_14 x13.1 ∧ OwnS (eInt .i64) 3 w' (fl [[b0_7], blk a2_14, blk a23, blk a26, M]) a2_14 c2_14 x13.2.1 ∧ OwnS (eInt .i64) 3 w' (fl [[b0_7], blk a2_14, blk a23, blk a26, M]) a23 c23 d22_j27 ∧ OwnS (eInt .i64) 3 w' (fl [[b0_7], blk a2_14, blk a23, blk a26, M]) a26 c26 (([] : List Int) ++ x17.2.1)) ?_ ?_
   · refine c_join (σ := Bool) (fun s => match s with | t48__s48_j28 => [(1, .slice a_p1 (p1).length c_p1), (2, .slice a_p2 (p2).length c_p2), (3, .slice a_p3 (p3).length c_p3), (4, .slice a_p4 (p4).length c_p4), (11, Vp b0_7 0), (12, Vi i_s12_l11), (13, .slice a0_14 (x13.1).length c0_14), (14, .slice a2_14 (x13.2.1).length c2_14), (15, .slice a23 ((([] : List Int) ++ x17.1)).length c23), (16, .slice a26 ((([] : List Int) ++ x17.2.1)).length c26), (48, .bool t48__s48_j28)]) (fun s w' => match s with | t48__s48_j28 => law16_AssignExact_J28 x6 i_s12_l11 x13 x17 t48__s48_j28 = some t11 ∧ Ev [] w w' ∧ MS w' [[b0_7], blk a2_14, blk a23, blk a26, M] ∧ FR w.heap.size [[b0_7], blk a2_14, blk a23, blk a26] ∧ SlR (eInt .i64) w' (fl [[b0_7], blk a2_14, blk a23, blk a26, M]) a_p1 c_p1 p1 ∧ SlR (eInt .i64) w' (fl [[b0_7], blk a2_14, blk a23, blk a26, M]) a_p2 c_p2 p2 ∧ SlR (eInt .i64) w' (fl [[b0_7], blk a2_14, blk a23, blk a26, M]) a_p3 c_p3 p3 ∧ SlR (eInt .i64) w' (fl [[b0_7], blk a2_14, blk a23, blk a26, M]) a_p4 c_p4 p4 ∧ SlR (eInt .i64) w' (fl [[b0_7], blk a2_14, blk a23, blk a26, M]) a1_7 c1_7 x6.1 ∧ w'.heap[b0_7]? = some (.cells #[.slice a1_7 (x6.1).length c1_7, Vi x13.2.2] 46 (0, 0)) ∧ SlR (eInt .i64) w' (fl [[b0_7], blk a2_14, blk a23, blk a26, M]) a0_14 c0_14 x13.1 ∧ OwnS (eInt .i64) 3 w' (fl [[b0_7], blk a2_14, blk a23, blk a26, M]) a2_14 c2_14 x13.2.1 ∧ OwnS (eInt .i64) 3 w' (fl [[b0_7], blk a2_14, blk a23, blk a26, M]) a23 c23 (([] : List Int) ++ x17.1) ∧ OwnS (eInt .i64) 3 w' (fl [[b0_7], blk a2_14, blk a23, blk a26, M]) a26 c26 (([] : List Int) ++ x17.2.1)) ?_ ?_
     · refine c_plain ?_
       refine x_pure 3 [(42, Vi i_s12_l11), (43, .bool (decide (i_s12_l11 > 1))), (44, .bool (decide (i_s12_l11 > 1)))] _ _ _ (by kernel_rfl) ?_
       refine x_split 44 (decide (i_s12_l11 > 1)) rfl (fun hb => ?_) (fun hb => ?_)
       · replace h := ite_t hb h
         refine x_pure 1 [(45, .slice a23 ((([] : List Int) ++ x17.1)).length c23)] _ _ _ (by kernel_rfl) ?_
         refine x_len (vs := [.slice a23 ((([] : List Int) ++ x17.1)).length c23]) (Vi (((([] : List Int) ++ x17.1)).length : Int)) rfl rfl rfl (reads_len tsl22 _ _ _ _ _) ?_
         refine x_pure 2 [(47, .bool (decide ((((([] : List Int) ++ x17.1)).length : Int) > 0))), (48, .bool (decide ((((([] : List Int) ++ x17.1)).length : Int) > 0)))] _ _ _ (by kernel_rfl) ?_
         refine x_end rfl ?_
         have hpk : MS w26 [[b0_7], blk a2_14, blk a23, blk a26, M] := hms.pick [some 3, some 2, some 1, some 0, some 4] _ rfl
         have hsu : ∀ x ∈ fl [[b0_7], blk a2_14, blk a23, blk a26, M], x ∈ fl [blk a26, blk a23, blk a2_14, [b0_7], M] := pick_sub [some 3, some 2, some 1, some 0, some 4] _ rfl
         replace hs_p1 := hs_p1.sub hsu
         replace hs_p2 := hs_p2.sub hsu
         replace hs_p3 := hs_p3.sub hsu
         replace hs_p4 := hs_p4.sub hsu
         replace hf7_2 := hf7_2.sub hsu
         replace hf14_1 := hf14_1.sub hsu
         replace hf14_2 := hf14_2.sub hsu
         replace ho21 := ho21.sub hsu
         replace ho24 := ho24.sub hsu
         replace hms := hpk
         replace hfr : FR w.heap.size [[b0_7], blk a2_14, blk a23, blk a26] := hfr.pick [some 3, some 2, some 1, some 0] _ rfl
         clear hpk hsu
         exact k_then ⟨decide ((((([] : List Int) ++ x17.1)).length : Int) > 0), ⟨rfl, rfl, rfl, rfl, rfl, rfl, rfl, rfl, rfl, rfl, rfl, trivial⟩, h, hev, hms, hfr, hs_p1, hs_p2, hs_p3, hs_p4, hf7_2, hf7_1, hf14_1, hf14_2, ho21, ho24⟩
       replace h := ite_f hb h
       refine x_pure 4 [(45, undef), (46, undef), (47, undef), (48, .bool false)] _ _ _ (by kernel_rfl) ?_
       refine x_end rfl ?_
       have hpk : MS w26 [[b0_7], blk a2_14, blk a23, blk a26, M] := hms.pick [some 3, some 2, some 1, some 0, some 4] _ rfl
       have hsu : ∀ x ∈ fl [[b0_7], blk a2_14, blk a23, blk a26, M], x ∈ fl [blk a26, blk a23, blk a2_14, [b0_7], M] := pick_sub [some 3, some 2, some 1, some 0, some 4] _ rfl
       replace hs_p1 := hs_p1.sub hsu
       replace hs_p2 := hs_p2.sub hsu
       replace hs_p3 := hs_p3.sub hsu
       replace hs_p4 := hs_p4.sub hsu
       replace hf7_2 := hf7_2.sub hsu
       replace hf14_1 := hf14_1.sub hsu
       replace hf14_2 := hf14_2.sub hsu
       replace ho21 := ho21.sub hsu
       replace ho24 := ho24.sub hsu
       replace hms := hpk
       replace hfr : FR w.heap.size [[b0_7], blk a2_14, blk a23, blk a26] := hfr.pick [some 3, some 2, some 1, some 0] _ rfl
       clear hpk hsu
       exact k_then ⟨false, ⟨rfl, rfl, rfl, rfl, rfl, rfl, rfl, rfl, rfl, rfl, rfl, trivial⟩, h, hev, hms, hfr, hs_p1, hs_p2, hs_p3, hs_p4, hf7_2, hf7_1, hf14_1, hf14_2, ho21, ho24⟩
     rintro t48__s48_j28 J wj28 ⟨h, hev, hms, hfr, hs_p1, hs_p2, hs_p3, hs_p4, hf7_2, hf7_1, hf14_1, hf14_2, ho21, ho24⟩
     refine c_cond t48__s48_j28 rfl (fun hb => ?_) (fun hb => ?_)
     · replace h := ite_t hb h
       refine c_plain ?_
       refine x_pure 3 [(49, .slice a23 ((([] : List Int) ++ x17.1)).length c23), (50, Vp b0_7 0), (51, .slice a23 ((([] : List Int) ++ x17.1)).length c23)] _ _ _ (by kernel_rfl) ?_
       refine x_len (vs := [.slice a23 ((([] : List Int) ++ x17.1)).length c23]) (Vi (((([] : List Int) ++ x17.1)).length : Int)) rfl rfl rfl (reads_len tsl22 _ _ _ _ _) ?_
       obtain ⟨x29, hx, h⟩ := bind_some h
       have hpk : MS wj28 ([[b0_7]] ++ [blk a2_14, blk a23, blk a26, M]) := hms.pick [some 0, some 1, some 2, some 3, some 4] _ rfl
       have hsb0 : ∀ x ∈ fl ([[b0_7]] ++ [blk a2_14, blk a23, blk a26, M]), x ∈ fl [[b0_7], blk a2_14, blk a23, blk a26, M] := pick_sub [some 0, some 1, some 2, some 3, some 4] _ rfl
       have hsb : ∀ x ∈ fl ([[b0_7]] ++ [(fl [blk a2_14, blk a23, blk a26, M])]), x ∈ fl [[b0_7], blk a2_14, blk a23, blk a26, M] := fun x hx => hsb0 x (fl_unfold x hx)
       have hcall := gen_Maker_Next_w b0_7 a1_7 c1_7 x6.1 x13.2.2 (((([] : List Int) ++ x17.1)).length : Int) _ wj28 (fl [blk a2_14, blk a23, blk a26, M]) (hpk.fold (P := [[b0_7]])) (hf7_2.sub hsb) hf7_1 hx
       refine x_call 16 #[] #[] [Vp b0_7 0, Vi (((([] : List Int) ++ x17.1)).length : Int)] _ rfl rfl rfl rfl hcall ?_
       rintro v w30 ⟨rfl, he30, hp30_0⟩
       clear hcall hx
       refine inl1 ?_
       have hpk2 : MS wj28 ([[b0_7]] ++ [blk a2_14, blk a23, blk a26, M]) := hms.pick [some 0, some 1, some 2, some 3, some 4] _ rfl
       have hsb2 : ∀ x ∈ fl ([[b0_7]] ++ [blk a2_14, blk a23, blk a26, M]), x ∈ fl [[b0_7], blk a2_14, blk a23, blk a26, M] := pick_sub [some 0, some 1, some 2, some 3, some 4] _ rfl
       have hst0 := Stp.call (LS := [[b0_7], blk a2_14, blk a23, blk a26, M]) (res := []) (par := [[b0_7]]) (R := [blk a2_14, blk a23, blk a26, M]) he30 (fun b hb => hsb2 b (fl_left' (P := [[b0_7]]) b hb)) (FR.nil _) (NP.init _ _) (fun x hx => hsb2 x (fl_right' (P := [[b0_7]]) x hx))
       have hsn : ∀ x ∈ fl [[b0_7], blk a2_14, blk a23, blk a26, M], x ∈ fl ([] ++ ([[b0_7]] ++ [blk a2_14, blk a23, blk a26, M])) := pick_sub [some 0, some 1, some 2, some 3, some 4] _ rfl
       have hst := hst0.res hsn
       replace hs_p1 := hs_p1.step hst
       replace hs_p2 := hs_p2.step hst
       replace hs_p3 := hs_p3.step hst
       replace hs_p4 := hs_p4.step hst
       replace hf7_2 := hf7_2.step hst
       replace hf14_1 := hf14_1.step hst
       replace hf14_2 := hf14_2.step hst he30 (MS.outs (P := [[b0_7]]) hpk2 0 rfl)
       replace ho21 := ho21.step hst he30 (MS.outs (P := [[b0_7]]) hpk2 1 rfl)
       replace ho24 := ho24.step hst he30 (MS.outs (P := [[b0_7]]) hpk2 2 rfl)
       replace hms := hms.ev he30
       have hPf : ∀ b ∈ fl [[b0_7]], w.heap.size ≤ b := FR.mem (ls := [[b0_7]]) (hfr.pick [some 0] _ rfl)
       replace hev := hev.then he30 (fun b hb => .inr (hPf b hb))
       replace hf7_1 := hp30_0
       clear hpk hsb hsb0 hpk2 hsb2 hst0 hsn hst
       refine x_pure 2 [(54, Vp b0_7 0), (55, .slice a2_14 (x13.2.1).length c2_14)] _ _ _ (by kernel_rfl) ?_
       refine x_len (vs := [.slice a2_14 (x13.2.1).length c2_14]) (Vi ((x13.2.1).length : Int)) rfl rfl rfl (reads_len tsl22 _ _ _ _ _) ?_
       obtain ⟨x31, hx, h⟩ := bind_some h
       have hpk : MS w30 ([[b0_7]] ++ [blk a2_14, blk a23, blk a26, M]) := hms.pick [some 0, some 1, some 2, some 3, some 4] _ rfl
       have hsb0 : ∀ x ∈ fl ([[b0_7]] ++ [blk a2_14, blk a23, blk a26, M]), x ∈ fl [[b0_7], blk a2_14, blk a23, blk a26, M] := pick_sub [some 0, some 1, some 2, some 3, some 4] _ rfl
       have hsb : ∀ x ∈ fl ([[b0_7]] ++ [(fl [blk a2_14, blk a23, blk a26, M])]), x ∈ fl [[b0_7], blk a2_14, blk a23, blk a26, M] := fun x hx => hsb0 x (fl_unfold x hx)
       have hcall := gen_Maker_From_w b0_7 a1_7 c1_7 x6.1 x29.2 (-1) ((x13.2.1).length : Int) _ w30 (fl [blk a2_14, blk a23, blk a26, M]) (hpk.fold (P := [[b0_7]])) (hf7_2.sub hsb) hf7_1 hx
       refine x_call 15 #[] #[] [Vp b0_7 0, Vi (-1), Vi ((x13.2.1).length : Int)] _ rfl rfl rfl rfl hcall ?_
       rintro v w32 ⟨rfl, he32, hp32_0⟩
       clear hcall hx
       refine inl1 ?_
       have hpk2 : MS w30 ([[b0_7]] ++ [blk a2_14, blk a23, blk a26, M]) := hms.pick [some 0, some 1, some 2, some 3, some 4] _ rfl
       have hsb2 : ∀ x ∈ fl ([[b0_7]] ++ [blk a2_14, blk a23, blk a26, M]), x ∈ fl [[b0_7], blk a2_14, blk a23, blk a26, M] := pick_sub [some 0, some 1, some 2, some 3, some 4] _ rfl
       have hst0 := Stp.call (LS := [[b0_7], blk a2_14, blk a23, blk a26, M]) (res := []) (par := [[b0_7]]) (R := [blk a2_14, blk a23, blk a26, M]) he32 (fun b hb => hsb2 b (fl_left' (P := [[b0_7]]) b hb)) (FR.nil _) (NP.init _ _) (fun x hx => hsb2 x (fl_right' (P := [[b0_7]]) x hx))
       have hsn : ∀ x ∈ fl [[b0_7], blk a2_14, blk a23, blk a26, M], x ∈ fl ([] ++ ([[b0_7]] ++ [blk a2_14, blk a23, blk a26, M])) := pick_sub [some 0, some 1, some 2, some 3, some 4] _ rfl
       have hst := hst0.res hsn
       replace hs_p1 := hs_p1.step hst
       replace hs_p2 := hs_p2.step hst
       replace hs_p3 := hs_p3.step hst
       replace hs_p4 := hs_p4.step hst
       replace hf7_2 := hf7_2.step hst
       replace hf14_1 := hf14_1.step hst
       replace hf14_2 := hf14_2.step hst he32 (MS.outs (P := [[b0_7]]) hpk2 0 rfl)
       replace ho21 := ho21.step hst he32 (MS.outs (P := [[b0_7]]) hpk2 1 rfl)
       replace ho24 := ho24.step hst he32 (MS.outs (P := [[b0_7]]) hpk2 2 rfl)
       replace hms := hms.ev he32
       have hPf : ∀ b ∈ fl [[b0_7]], w.heap.size ≤ b := FR.mem (ls := [[b0_7]]) (hfr.pick [some 0] _ rfl)
       replace hev := hev.then he32 (fun b hb => .inr (hPf b hb))
       replace hf7_1 := hp32_0
       clear hpk hsb hsb0 hpk2 hsb2 hst0 hsn hst
       obtain ⟨x33, hx33, h⟩ := bind_some h
       obtain ⟨g33, cs33, ha33, hr33, hc33, hR⟩ := own_index (Mo := []) tsl22 ho21 hx33
       obtain rfl := hR
       refine x_indexAddr (xv := .slice a23 ((([] : List Int) ++ x17.1)).length c23) (yv := Vi x29.1) (.pointer (some ⟨g33, (Int.toNat x29.1) * (eInt .i64).n, none⟩)) rfl rfl rfl rfl hr33 ?_
       obtain ⟨w37, hr37, he37, ho37⟩ := own_storeE ha33 (y := x31.1) 0 (Vi x31.1) tcell3 ho21 (mem_flat 2 rfl) hx33 rfl rfl (fun _ _ _ hR => set_int hR)
       refine x_store w37 (xv := .pointer (some ⟨g33, (Int.toNat x29.1) * (eInt .i64).n, none⟩)) (yv := Vi x31.1) rfl rfl rfl rfl hr37 ?_
       refine inl1 ?_
       have hst := Stp.ev' (ls := [[b0_7], blk a2_14, blk a23, blk a26, M]) he37 (mem_flat 2 rfl)
       replace hs_p1 := hs_p1.step hst
       replace hs_p2 := hs_p2.step hst
       replace hs_p3 := hs_p3.step hst
       replace hs_p4 := hs_p4.step hst
       replace hf7_1 := he37.box hf7_1 (hms.apart 0 2 rfl rfl rfl _ mem1)
       replace hf7_2 := hf7_2.step hst
       replace hf14_1 := hf14_1.step hst
       replace hf14_2 := hf14_2.step hst he37 (hms.apart 1 2 rfl rfl rfl)
       replace ho24 := ho24.step hst he37 (hms.apart 3 2 rfl rfl rfl)
       replace hms := hms.ev he37
       replace hev := hev.then he37 (fun b hb => .inr (hfr.at 2 rfl b hb))
       replace ho21 := ho37
       have hsl : (Value.slice a23 ((([] : List Int) ++ x17.1)).length c23) = (Value.slice a23 (((([] : List Int) ++ x17.1).set (Int.toNat x29.1) x31.1)).length c23) := by first | (rw [List.length_set]; done) | simp only [List.length_set]
       try rw [hsl]
       clear hsl
       refine x_end rfl ?_
       exact k_then ⟨(x31.2, ((([] : List Int) ++ x17.1).set (Int.toNat x29.1) x31.1)), ⟨rfl, rfl, rfl, rfl, rfl, rfl, rfl, rfl, rfl, rfl, trivial⟩, h, hev, hms, hfr, hs_p1, hs_p2, hs_p3, hs_p4, hf7_2, hf7_1, hf14_1, hf14_2, ho21, ho24⟩
     replace h := ite_f hb h
     refine c_skip ?_
     exact k_then ⟨(x13.2.2, (([] : List Int) ++ x17.1)), ⟨rfl, rfl, rfl, rfl, rfl, rfl, rfl, rfl, rfl, rfl, trivial⟩, h, hev, hms, hfr, hs_p1, hs_p2, hs_p3, hs_p4, hf7_2, hf7_1, hf14_1, hf14_2, ho21, ho24⟩
   rintro ⟨e8_j27_1, d22_j27⟩ J wj27 ⟨h, hev, hms, hfr, hs_p1, hs_p2, hs_p3, hs_p4, hf7_2, hf7_1, hf14_1, hf14_2, ho21, ho24⟩
   refine c_join (σ := Int × (List Int)) (fun s => match s with | (e8_j38_1, d25_j38) => [(1, .slice a_p1 (p1).length c_p1), (2, .slice a_p2 (p2).length c_p2), (3, .slice a_p3 (p3).length c_p3), (4, .slice a_p4 (p4).length c_p4), (11, Vp b0_7 0), (12, Vi i_s12_l11), (13, .slice a0_14 (x13.1).length c0_14), (14, .slice a2_14 (x13.2.1).length c2_14), (15, .slice a23 (d22_j27).length c23), (16, .slice a26 (d25_j38).length c26)]) (fun s w' => match s with | (e8_j38_1, d25_j38) => law16_AssignExact_J38 x6 i_s12_l11 x13 d22_j27 e8_j38_1 d25_j38 = some t11 ∧ Ev [] w w' ∧ MS w' [[b0_7], blk a2_14, blk a23, blk a26, M] ∧ FR w.heap.size [[b0_7], blk a2_14, blk a23, blk a26] ∧ SlR (eInt .i64) w' (fl [[b0_7], blk a2_14, blk a23, blk a26, M]) a_p1 c_p1 p1 ∧ SlR (eInt .i64) w' (fl [[b0_7], blk a2_14, blk a23, blk a26, M]) a_p2 c_p2 p2 ∧ SlR (eInt .i64) w' (fl [[b0_7], blk a2_14, blk a23, blk a26, M]) a_p3 c_p3 p3 ∧ SlR (eInt .i64) w' (fl [[b0_7], blk a2_14, blk a23, blk a26, M]) a_p4 c_p4 p4 ∧ SlR (eInt .i64) w' (fl [[b0_7], blk a2_14, blk a23, blk a26, M]) a1_7 c1_7 x6.1 ∧ w'.heap[b0_7]? = some (.cells #[.slice a1_7 (x6.1).length c1_7, Vi e8_j38_1] 46 (0, 0)) ∧ SlR (eInt .i64) w' (fl [[b0_7], blk a2_14, blk a23, blk a26, M]) a0_14 c0_14 x13.1 ∧ OwnS (eInt .i64) 3 w' (fl [[b0_7], blk a2_14, blk a23, blk a26, M]) a2_14 c2_14 x13.2.1 ∧ OwnS (eInt .i64) 3 w' (fl [[b0_7], blk a2_14, blk a23, blk a26, M]) a23 c23 d22_j27 ∧ OwnS (eInt .i64) 3 w' (fl [[b0_7], blk a2_14, blk a23, blk a26, M]) a26 c26 d25_j38) ?_ ?_
   · refine c_join (σ := Bool) (fun s => match s with | t65__s65_j39 => [(1, .slice a_p1 (p1).length c_p1), (2, .slice a_p2 (p2).length c_p2), (3, .slice a_p3 (p3).length c_p3), (4, .slice a_p4 (p4).length c_p4), (11, Vp b0_7 0), (12, Vi i_s12_l11), (13, .slice a0_14 (x13.1).length c0_14), (14, .slice a2_14 (x13.2.1).length c2_14), (15, .slice a23 (d22_j27).length c23), (16, .slice a26 ((([] : List Int) ++ x17.2.1)).length c26), (65, .bool t65__s65_j39)]) (fun s w' => match s with | t65__s65_j39 => law16_AssignExact_J39 x6 i_s12_l11 x13 x17 e8_j27_1 d22_j27 t65__s65_j39 = some t11 ∧ Ev [] w w' ∧ MS w' [[b0_7], blk a2_14, blk a23, blk a26, M] ∧ FR w.heap.size [[b0_7], blk a2_14, blk a23, blk a26] ∧ SlR (eInt .i64) w' (fl [[b0_7], blk a2_14, blk a23, blk a26, M]) a_p1 c_p1 p1 ∧ SlR (eInt .i64) w' (fl [[b0_7], blk a2_14, blk a23, blk a26, M]) a_p2 c_p2 p2 ∧ SlR (eInt .i64) w' (fl [[b0_7], blk a2_14, blk a23, blk a26, M]) a_p3 c_p3 p3 ∧ SlR (eInt .i64) w' (fl [[b0_7], blk a2_14, blk a23, blk a26, M]) a_p4 c_p4 p4 ∧ SlR (eInt .i64) w' (fl [[b0_7], blk a2_14, blk a23, blk a26, M]) a1_7 c1_7 x6.1 ∧ w'.heap[b0_7]? = some (.cells #[.slice a1_7 (x6.1).length c1_7, Vi e8_j27_1] 46 (0, 0)) ∧ SlR (eInt .i64) w' (fl [[b0_7], blk a2_14, blk a23, blk a26, M]) a0_14 c0_14 x13.1 ∧ OwnS (eInt .i64) 3 w' (fl [[b0_7], blk a2_14, blk a23, blk a26, M]) a2_14 c2_14 x13.2.1 ∧ OwnS (eInt .i64) 3 w' (fl [[b0_7], blk a2_14, blk a23, blk a26, M]) a23 c23 d22_j27 ∧ OwnS (eInt .i64) 3 w' (fl [[b0_7], blk a2_14, blk a23, blk a26, M]) a26 c26 (([] : List Int) ++ x17.2.1)) ?_ ?_
     · refine c_plain ?_
       refine x_pure 3 [(59, Vi i_s12_l11), (60, .bool (decide (i_s12_l11 > 1))), (61, .bool (decide (i_s12_l11 > 1)))] _ _ _ (by kernel_rfl) ?_
       refine x_split 61 (decide (i_s12_l11 > 1)) rfl (fun hb => ?_) (fun hb => ?_)
       · replace h := ite_t hb h
         refine x_pure 1 [(62, .slice a26 ((([] : List Int) ++ x17.2.1)).length c26)] _ _ _ (by kernel_rfl) ?_
         refine x_len (vs := [.slice a26 ((([] : List Int) ++ x17.2.1)).length c26]) (Vi (((([] : List Int) ++ x17.2.1)).length : Int)) rfl rfl rfl (reads_len tsl22 _ _ _ _ _) ?_
         refine x_pure 2 [(64, .bool (decide ((((([] : List Int) ++ x17.2.1)).length : Int) > 0))), (65, .bool (decide ((((([] : List Int) ++ x17.2.1)).length : Int) > 0)))] _ _ _ (by kernel_rfl) ?_
         refine x_end rfl ?_
         exact k_then ⟨decide ((((([] : List Int) ++ x17.2.1)).length : Int) > 0), ⟨rfl, rfl, rfl, rfl, rfl, rfl, rfl, rfl, rfl, rfl, rfl, trivial⟩, h, hev, hms, hfr, hs_p1, hs_p2, hs_p3, hs_p4, hf7_2, hf7_1, hf14_1, hf14_2, ho21, ho24⟩
       replace h := ite_f hb h
       refine x_pure 4 [(62, undef), (63, undef), (64, undef), (65, .bool false)] _ _ _ (by kernel_rfl) ?_
       refine x_end rfl ?_
       exact k_then ⟨false, ⟨rfl, rfl, rfl, rfl, rfl, rfl, rfl, rfl, rfl, rfl, rfl, trivial⟩, h, hev, hms, hfr, hs_p1, hs_p2, hs_p3, hs_p4, hf7_2, hf7_1, hf14_1, hf14_2, ho21, ho24⟩
     rintro t65__s65_j39 J wj39 ⟨h, hev, hms, hfr, hs_p1, hs_p2, hs_p3, hs_p4, hf7_2, hf7_1, hf14_1, hf14_2, ho21, ho24⟩
     refine c_cond t65__s65_j39 rfl (fun hb => ?_) (fun hb => ?_)
     · replace h := ite_t hb h
       refine c_plain ?_
       refine x_pure 3 [(66, .slice a26 ((([] : List Int) ++ x17.2.1)).length c26), (67, Vp b0_7 0), (68, .slice a26 ((([] : List Int) ++ x17.2.1)).length c26)] _ _ _ (by kernel_rfl) ?_
       refine x_len (vs := [.slice a26 ((([] : List Int) ++ x17.2.1)).length c26]) (Vi (((([] : List Int) ++ x17.2.1)).length : Int)) rfl rfl rfl (reads_len tsl22 _ _ _ _ _) ?_
       obtain ⟨x40, hx, h⟩ := bind_some h
       have hpk : MS wj39 ([[b0_7]] ++ [blk a2_14, blk a23, blk a26, M]) := hms.pick [some 0, some 1, some 2, some 3, some 4] _ rfl
       have hsb0 : ∀ x ∈ fl ([[b0_7]] ++ [blk a2_14, blk a23, blk a26, M]), x ∈ fl [[b0_7], blk a2_14, blk a23, blk a26, M] := pick_sub [some 0, some 1, some 2, some 3, some 4] _ rfl
       have hsb : ∀ x ∈ fl ([[b0_7]] ++ [(fl [blk a2_14, blk a23, blk a26, M])]), x ∈ fl [[b0_7], blk a2_14, blk a23, blk a26, M] := fun x hx => hsb0 x (fl_unfold x hx)
       have hcall := gen_Maker_Next_w b0_7 a1_7 c1_7 x6.1 e8_j27_1 (((([] : List Int) ++ x17.2.1)).length : Int) _ wj39 (fl [blk a2_14, blk a23, blk a26, M]) (hpk.fold (P := [[b0_7]])) (hf7_2.sub hsb) hf7_1 hx
       refine x_call 16 #[] #[] [Vp b0_7 0, Vi (((([] : List Int) ++ x17.2.1)).length : Int)] _ rfl rfl rfl rfl hcall ?_
       rintro v w41 ⟨rfl, he41, hp41_0⟩
       clear hcall hx
       refine inl1 ?_
       have hpk2 : MS wj39 ([[b0_7]] ++ [blk a2_14, blk a23, blk a26, M]) := hms.pick [some 0, some 1, some 2, some 3, some 4] _ rfl
       have hsb2 : ∀ x ∈ fl ([[b0_7]] ++ [blk a2_14, blk a23, blk a26, M]), x ∈ fl [[b0_7], blk a2_14, blk a23, blk a26, M] := pick_sub [some 0, some 1, some 2, some 3, some 4] _ rfl
       have hst0 := Stp.call (LS := [[b0_7], blk a2_14, blk a23, blk a26, M]) (res := []) (par := [[b0_7]]) (R := [blk a2_14, blk a23, blk a26, M]) he41 (fun b hb => hsb2 b (fl_left' (P := [[b0_7]]) b hb)) (FR.nil _) (NP.init _ _) (fun x hx => hsb2 x (fl_right' (P := [[b0_7]]) x hx))
       have hsn : ∀ x ∈ fl [[b0_7], blk a2_14, blk a23, blk a26, M], x ∈ fl ([] ++ ([[b0_7]] ++ [blk a2_14, blk a23, blk a26, M])) := pick_sub [some 0, some 1, some 2, some 3, some 4] _ rfl
       have hst := hst0.res hsn
       replace hs_p1 := hs_p1.step hst
       replace hs_p2 := hs_p2.step hst
       replace hs_p3 := hs_p3.step hst
       replace hs_p4 := hs_p4.step hst
       replace hf7_2 := hf7_2.step hst
       replace hf14_1 := hf14_1.step hst
       replace hf14_2 := hf14_2.step hst he41 (MS.outs (P := [[b0_7]]) hpk2 0 rfl)
       replace ho21 := ho21.step hst he41 (MS.outs (P := [[b0_7]]) hpk2 1 rfl)
       replace ho24 := ho24.step hst he41 (MS.outs (P := [[b0_7]]) hpk2 2 rfl)
       replace hms := hms.ev he41
       have hPf : ∀ b ∈ fl [[b0_7]], w.heap.size ≤ b := FR.mem (ls := [[b0_7]]) (hfr.pick [some 0] _ rfl)
       replace hev := hev.then he41 (fun b hb => .inr (hPf b hb))
       replace hf7_1 := hp41_0
       clear hpk hsb hsb0 hpk2 hsb2 hst0 hsn hst
       refine x_pure 2 [(71, Vp b0_7 0), (72, .slice a0_14 (x13.1).length c0_14)] _ _ _ (by kernel_rfl) ?_
       refine x_len (vs := [.slice a0_14 (x13.1).length c0_14]) (Vi ((x13.1).length : Int)) rfl rfl rfl (reads_len tsl22 _ _ _ _ _) ?_
       obtain ⟨x42, hx, h⟩ := bind_some h
       have hpk : MS w41 ([[b0_7]] ++ [blk a2_14, blk a23, blk a26, M]) := hms.pick [some 0, some 1, some 2, some 3, some 4] _ rfl
       have hsb0 : ∀ x ∈ fl ([[b0_7]] ++ [blk a2_14, blk a23, blk a26, M]), x ∈ fl [[b0_7], blk a2_14, blk a23, blk a26, M] := pick_sub [some 0, some 1, some 2, some 3, some 4] _ rfl
       have hsb : ∀ x ∈ fl ([[b0_7]] ++ [(fl [blk a2_14, blk a23, blk a26, M])]), x ∈ fl [[b0_7], blk a2_14, blk a23, blk a26, M] := fun x hx => hsb0 x (fl_unfold x hx)
       have hcall := gen_Maker_From_w b0_7 a1_7 c1_7 x6.1 x40.2 (-1) ((x13.1).length : Int) _ w41 (fl [blk a2_14, blk a23, blk a26, M]) (hpk.fold (P := [[b0_7]])) (hf7_2.sub hsb) hf7_1 hx
       refine x_call 15 #[] #[] [Vp b0_7 0, Vi (-1), Vi ((x13.1).length : Int)] _ rfl rfl rfl rfl hcall ?_
       rintro v w43 ⟨rfl, he43, hp43_0⟩
       clear hcall hx
       refine inl1 ?_
       have hpk2 : MS w41 ([[b0_7]] ++ [blk a2_14, blk a23, blk a26, M]) := hms.pick [some 0, some 1, some 2, some 3, some 4] _ rfl
       have hsb2 : ∀ x ∈ fl ([[b0_7]] ++ [blk a2_14, blk a23, blk a26, M]), x ∈ fl [[b0_7], blk a2_14, blk a23, blk a26, M] := pick_sub [some 0, some 1, some 2, some 3, some 4] _ rfl
       have hst0 := Stp.call (LS := [[b0_7], blk a2_14, blk a23, blk a26, M]) (res := []) (par := [[b0_7]]) (R := [blk a2_14, blk a23, blk a26, M]) he43 (fun b hb => hsb2 b (fl_left' (P := [[b0_7]]) b hb)) (FR.nil _) (NP.init _ _) (fun x hx => hsb2 x (fl_right' (P := [[b0_7]]) x hx))
       have hsn : ∀ x ∈ fl [[b0_7], blk a2_14, blk a23, blk a26, M], x ∈ fl ([] ++ ([[b0_7]] ++ [blk a2_14, blk a23, blk a26, M])) := pick_sub [some 0, some 1, some 2, some 3, some 4] _ rfl
       have hst := hst0.res hsn
       replace hs_p1 := hs_p1.step hst
       replace hs_p2 := hs_p2.step hst
       replace hs_p3 := hs_p3.step hst
       replace hs_p4 := hs_p4.step hst
       replace hf7_2 := hf7_2.step hst
       replace hf14_1 := hf14_1.step hst
       replace hf14_2 := hf14_2.step hst he43 (MS.outs (P := [[b0_7]]) hpk2 0 rfl)
       replace ho21 := ho21.step hst he43 (MS.outs (P := [[b0_7]]) hpk2 1 rfl)
       replace ho24 := ho24.step hst he43 (MS.outs (P := [[b0_7]]) hpk2 2 rfl)
       replace hms := hms.ev he43
       have hPf : ∀ b ∈ fl [[b0_7]], w.heap.size ≤ b := FR.mem (ls := [[b0_7]]) (hfr.pick [some 0] _ rfl)
       replace hev := hev.then he43 (fun b hb => .inr (hPf b hb))
       replace hf7_1 := hp43_0
       clear hpk hsb hsb0 hpk2 hsb2 hst0 hsn hst
       obtain ⟨x44, hx44, h⟩ := bind_some h
       obtain ⟨g44, cs44, ha44, hr44, hc44, hR⟩ := own_index (Mo := []) tsl22 ho24 hx44
       obtain rfl := hR
       refine x_indexAddr (xv := .slice a26 ((([] : List Int) ++ x17.2.1)).length c26) (yv := Vi x40.1) (.pointer (some ⟨g44, (Int.toNat x40.1) * (eInt .i64).n, none⟩)) rfl rfl rfl rfl hr44 ?_
       obtain ⟨w48, hr48, he48, ho48⟩ := own_storeE ha44 (y := x42.1) 0 (Vi x42.1) tcell3 ho24 (mem_flat 3 rfl) hx44 rfl rfl (fun _ _ _ hR => set_int hR)
       refine x_store w48 (xv := .pointer (some ⟨g44, (Int.toNat x40.1) * (eInt .i64).n, none⟩)) (yv := Vi x42.1) rfl rfl rfl rfl hr48 ?_
       refine inl1 ?_
       have hst := Stp.ev' (ls := [[b0_7], blk a2_14, blk a23, blk a26, M]) he48 (mem_flat 3 rfl)
       replace hs_p1 := hs_p1.step hst
       replace hs_p2 := hs_p2.step hst
       replace hs_p3 := hs_p3.step hst
       replace hs_p4 := hs_p4.step hst
       replace hf7_1 := he48.box hf7_1 (hms.apart 0 3 rfl rfl rfl _ mem1)
       replace hf7_2 := hf7_2.step hst
       replace hf14_1 := hf14_1.step hst
       replace hf14_2 := hf14_2.step hst he48 (hms.apart 1 3 rfl rfl rfl)
       replace ho21 := ho21.step hst he48 (hms.apart 2 3 rfl rfl rfl)
       replace hms := hms.ev he48
       replace hev := hev.then he48 (fun b hb => .inr (hfr.at 3 rfl b hb))
       replace ho24 := ho48
       have hsl : (Value.slice a26 ((([] : List Int) ++ x17.2.1)).length c26) = (Value.slice a26 (((([] : List Int) ++ x17.2.1).set (Int.toNat x40.1) x42.1)).length c26) := by first | (rw [List.length_set]; done) | simp only [List.length_set]
       try rw [hsl]
       clear hsl
       refine x_end rfl ?_
       exact k_then ⟨(x42.2, ((([] : List Int) ++ x17.2.1).set (Int.toNat x40.1) x42.1)), ⟨rfl, rfl, rfl, rfl, rfl, rfl, rfl, rfl, rfl, rfl, trivial⟩, h, hev, hms, hfr, hs_p1, hs_p2, hs_p3, hs_p4, hf7_2, hf7_1, hf14_1, hf14_2, ho21, ho24⟩
     replace h := ite_f hb h
     refine c_skip ?_
     exact k_then ⟨(e8_j27_1, (([] : List Int) ++ x17.2.1)), ⟨rfl, rfl, rfl, rfl, rfl, rfl, rfl, rfl, rfl, rfl, trivial⟩, h, hev, hms, hfr, hs_p1, hs_p2, hs_p3, hs_p4, hf7_2, hf7_1, hf14_1, hf14_2, ho21, ho24⟩
   rintro ⟨e8_j38_1, d25_j38⟩ J wj38 ⟨h, hev, hms, hfr, hs_p1, hs_p2, hs_p3, hs_p4, hf7_2, hf7_1, hf14_1, hf14_2, ho21, ho24⟩
   refine c_join (σ := Int × (List Int)) (fun s => match s with | (e8_j49_1, d16_j49) => [(1, .slice a_p1 (p1).length c_p1), (2, .slice a_p2 (p2).length c_p2), (3, .slice a_p3 (p3).length c_p3), (4, .slice a_p4 (p4).length c_p4), (11, Vp b0_7 0), (12, Vi i_s12_l11), (13, .slice a0_14 (x13.1).length c0_14), (14, .slice a2_14 (d16_j49).length c2_14), (15, .slice a23 (d22_j27).length c23), (16, .slice a26 (d25_j38).length c26)]) (fun s w' => match s with | (e8_j49_1, d16_j49) => law16_AssignExact_J49 i_s12_l11 x13 d22_j27 d25_j38 e8_j49_1 d16_j49 = some t11 ∧ Ev [] w w' ∧ MS w' [[b0_7], blk a2_14, blk a23, blk a26, M] ∧ FR w.heap.size [[b0_7], blk a2_14, blk a23, blk a26] ∧ SlR (eInt .i64) w' (fl [[b0_7], blk a2_14, blk a23, blk a26, M]) a_p1 c_p1 p1 ∧ SlR (eInt .i64) w' (fl [[b0_7], blk a2_14, blk a23, blk a26, M]) a_p2 c_p2 p2 ∧ SlR (eInt .i64) w' (fl [[b0_7], blk a2_14, blk a23, blk a26, M]) a_p3 c_p3 p3 ∧ SlR (eInt .i64) w' (fl [[b0_7], blk a2_14, blk a23, blk a26, M]) a_p4 c_p4 p4 ∧ SlR (eInt .i64) w' (fl [[b0_7], blk a2_14, blk a23, blk a26, M]) a1_7 c1_7 x6.1 ∧ w'.heap[b0_7]? = some (.cells #[.slice a1_7 (x6.1).length c1_7, Vi e8_j49_1] 46 (0, 0)) ∧ SlR (eInt .i64) w' (fl [[b0_7], blk a2_14, blk a23, blk a26, M]) a0_14 c0_14 x13.1 ∧ OwnS (eInt .i64) 3 w' (fl [[b0_7], blk a2_14, blk a23, blk a26, M]) a2_14 c2_14 d16_j49 ∧ OwnS (eInt .i64) 3 w' (fl [[b0_7], blk a2_14, blk a23, blk a26, M]) a23 c23 d22_j27 ∧ OwnS (eInt .i64) 3 w' (fl [[b0_7], blk a2_14, blk a23, blk a26, M]) a26 c26 d25_j38) ?_ ?_
   · refine c_join (σ := Bool) (fun s => match s with | t82__s82_j50 => [(1, .slice a_p1 (p1).length c_p1), (2, .slice a_p2 (p2).length c_p2), (3, .slice a_p3 (p3).length c_p3), (4, .slice a_p4 (p4).length c_p4), (11, Vp b0_7 0), (12, Vi i_s12_l11), (13, .slice a0_14 (x13.1).length c0_14), (14, .slice a2_14 (x13.2.1).length c2_14), (15, .slice a23 (d22_j27).length c23), (16, .slice a26 (d25_j38).length c26), (82, .bool t82__s82_j50)]) (fun s w' => match s with | t82__s82_j50 => law16_AssignExact_J50 x6 i_s12_l11 x13 d22_j27 e8_j38_1 d25_j38 t82__s82_j50 = some t11 ∧ Ev [] w w' ∧ MS w' [[b0_7], blk a2_14, blk a23, blk a26, M] ∧ FR w.heap.size [[b0_7], blk a2_14, blk a23, blk a26] ∧ SlR (eInt .i64) w' (fl [[b0_7], blk a2_14, blk a23, blk a26, M]) a_p1 c_p1 p1 ∧ SlR (eInt .i64) w' (fl [[b0_7], blk a2_14, blk a23, blk a26, M]) a_p2 c_p2 p2 ∧ SlR (eInt .i64) w' (fl [[b0_7], blk a2_14, blk a23, blk a26, M]) a_p3 c_p3 p3 ∧ SlR (eInt .i64) w' (fl [[b0_7], blk a2_14, blk a23, blk a26, M]) a_p4 c_p4 p4 ∧ SlR (eInt .i64) w' (fl [[b0_7], blk a2_14, blk a23, blk a26, M]) a1_7 c1_7 x6.1 ∧ w'.heap[b0_7]? = some (.cells #[.slice a1_7 (x6.1).length c1_7, Vi e8_j38_1] 46 (0, 0)) ∧ SlR (eInt .i64) w' (fl [[b0_7], blk a2_14, blk a23, blk a26, M]) a0_14 c0_14 x13.1 ∧ OwnS (eInt .i64) 3 w' (fl [[b0_7], blk a2_14, blk a23, blk a26, M]) a2_14 c2_14 x13.2.1 ∧ OwnS (eInt .i64) 3 w' (fl [[b0_7], blk a2_14, blk a23, blk a26, M]) a23 c23 d22_j27 ∧ OwnS (eInt .i64) 3 w' (fl [[b0_7], blk a2_14, blk a23, blk a26, M]) a26 c26 d25_j38) ?_ ?_
     · refine c_plain ?_
       refine x_pure 3 [(76, Vi i_s12_l11), (77, .bool (i_s12_l11 == 4)), (78, .bool (i_s12_l11 == 4))] _ _ _ (by kernel_rfl) ?_
       refine x_split 78 (i_s12_l11 == 4) rfl (fun hb => ?_) (fun hb => ?_)
       · replace h := ite_t hb h
         refine x_pure 1 [(79, .slice a2_14 (x13.2.1).length c2_14)] _ _ _ (by kernel_rfl) ?_
         refine x_len (vs := [.slice a2_14 (x13.2.1).length c2_14]) (Vi ((x13.2.1).length : Int)) rfl rfl rfl (reads_len tsl22 _ _ _ _ _) ?_
         refine x_pure 2 [(81, .bool (decide (((x13.2.1).length : Int) > 0))), (82, .bool (decide (((x13.2.1).length : Int) > 0)))] _ _ _ (by kernel_rfl) ?_
         refine x_end rfl ?_
         exact k_then ⟨decide (((x13.2.1).length : Int) > 0), ⟨rfl, rfl, rfl, rfl, rfl, rfl, rfl, rfl, rfl, rfl, rfl, trivial⟩, h, hev, hms, hfr, hs_p1, hs_p2, hs_p3, hs_p4, hf7_2, hf7_1, hf14_1, hf14_2, ho21, ho24⟩
       replace h := ite_f hb h
       refine x_pure 4 [(79, undef), (80, undef), (81, undef), (82, .bool false)] _ _ _ (by kernel_rfl) ?_
       refine x_end rfl ?_
       exact k_then ⟨false, ⟨rfl, rfl, rfl, rfl, rfl, rfl, rfl, rfl, rfl, rfl, rfl, trivial⟩, h, hev, hms, hfr, hs_p1, hs_p2, hs_p3, hs_p4, hf7_2, hf7_1, hf14_1, hf14_2, ho21, ho24⟩
     rintro t82__s82_j50 J wj50 ⟨h, hev, hms, hfr, hs_p1, hs_p2, hs_p3, hs_p4, hf7_2, hf7_1, hf14_1, hf14_2, ho21, ho24⟩
     refine c_cond t82__s82_j50 rfl (fun hb => ?_) (fun hb => ?_)
     · replace h := ite_t hb h
       refine c_plain ?_
       refine x_pure 3 [(83, .slice a2_14 (x13.2.1).length c2_14), (84, Vp b0_7 0), (85, .slice a2_14 (x13.2.1).length c2_14)] _ _ _ (by kernel_rfl) ?_
       refine x_len (vs := [.slice a2_14 (x13.2.1).length c2_14]) (Vi ((x13.2.1).length : Int)) rfl rfl rfl (reads_len tsl22 _ _ _ _ _) ?_
       obtain ⟨x51, hx, h⟩ := bind_some h
       have hpk : MS wj50 ([[b0_7]] ++ [blk a2_14, blk a23, blk a26, M]) := hms.pick [some 0, some 1, some 2, some 3, some 4] _ rfl
       have hsb0 : ∀ x ∈ fl ([[b0_7]] ++ [blk a2_14, blk a23, blk a26, M]), x ∈ fl [[b0_7], blk a2_14, blk a23, blk a26, M] := pick_sub [some 0, some 1, some 2, some 3, some 4] _ rfl
       have hsb : ∀ x ∈ fl ([[b0_7]] ++ [(fl [blk a2_14, blk a23, blk a26, M])]), x ∈ fl [[b0_7], blk a2_14, blk a23, blk a26, M] := fun x hx => hsb0 x (fl_unfold x hx)
       have hcall := gen_Maker_Next_w b0_7 a1_7 c1_7 x6.1 e8_j38_1 ((x13.2.1).length : Int) _ wj50 (fl [blk a2_14, blk a23, blk a26, M]) (hpk.fold (P := [[b0_7]])) (hf7_2.sub hsb) hf7_1 hx
       refine x_call 16 #[] #[] [Vp b0_7 0, Vi ((x13.2.1).length : Int)] _ rfl rfl rfl rfl hcall ?_
       rintro v w52 ⟨rfl, he52, hp52_0⟩
       clear hcall hx
       refine inl1 ?_
       have hpk2 : MS wj50 ([[b0_7]] ++ [blk a2_14, blk a23, blk a26, M]) := hms.pick [some 0, some 1, some 2, some 3, some 4] _ rfl
       have hsb2 : ∀ x ∈ fl ([[b0_7]] ++ [blk a2_14, blk a23, blk a26, M]), x ∈ fl [[b0_7], blk a2_14, blk a23, blk a26, M] := pick_sub [some 0, some 1, some 2, some 3, some 4] _ rfl
       have hst0 := Stp.call (LS := [[b0_7], blk a2_14, blk a23, blk a26, M]) (res := []) (par := [[b0_7]]) (R := [blk a2_14, blk a23, blk a26, M]) he52 (fun b hb => hsb2 b (fl_left' (P := [[b0_7]]) b hb)) (FR.nil _) (NP.init _ _) (fun x hx => hsb2 x (fl_right' (P := [[b0_7]]) x hx))
       have hsn : ∀ x ∈ fl [[b0_7], blk a2_14, blk a23, blk a26, M], x ∈ fl ([] ++ ([[b0_7]] ++ [blk a2_14, blk a23, blk a26, M])) := pick_sub [some 0, some 1, some 2, some 3, some 4] _ rfl
       have hst := hst0.res hsn
       replace hs_p1 := hs_p1.step hst
       replace hs_p2 := hs_p2.step hst
       replace hs_p3 := hs_p3.step hst
       replace hs_p4 := hs_p4.step hst
       replace hf7_2 := hf7_2.step hst
       replace hf14_1 := hf14_1.step hst
       replace hf14_2 := hf14_2.step hst he52 (MS.outs (P := [[b0_7]]) hpk2 0 rfl)
       replace ho21 := ho21.step hst he52 (MS.outs (P := [[b0_7]]) hpk2 1 rfl)
       replace ho24 := ho24.step hst he52 (MS.outs (P := [[b0_7]]) hpk2 2 rfl)
       replace hms := hms.ev he52
       have hPf : ∀ b ∈ fl [[b0_7]], w.heap.size ≤ b := FR.mem (ls := [[b0_7]]) (hfr.pick [some 0] _ rfl)
       replace hev := hev.then he52 (fun b hb => .inr (hPf b hb))
       replace hf7_1 := hp52_0
       clear hpk hsb hsb0 hpk2 hsb2 hst0 hsn hst
       refine x_pure 1 [(88, Vp b0_7 0)] _ _ _ (by kernel_rfl) ?_
       refine x_buildSlice (vs := [(0, Vi 0), (1, Vi (-1)), (2, Vi 38400), (3, Vi 38401)]) #[Vi 0, Vi (-1), Vi 38400, Vi 38401] 3 rfl rfl rfl (by kernel_rfl) (fun b53 w53 hq53 hb53 he53 hz53 => ?_)
       refine inl1 ?_
       have hms0 := hms
       have hst := Stp.ext (ls := [[b0_7], blk a2_14, blk a23, blk a26, M]) he53
       replace hs_p1 := hs_p1.step hst
       replace hs_p2 := hs_p2.step hst
       replace hs_p3 := hs_p3.step hst
       replace hs_p4 := hs_p4.step hst
       replace hf7_1 := he53.box hf7_1 nn
       replace hf7_2 := hf7_2.step hst
       replace hf14_1 := hf14_1.step hst
       replace hf14_2 := hf14_2.step hst he53 nn2
       replace ho21 := ho21.step hst he53 nn2
       replace ho24 := ho24.step hst he53 nn2
       replace hms := hms.ev he53
       replace hev := hev.ext he53
       have hs53 : SlR (eInt .i64) w53 (fl [[b0_7], blk a2_14, blk a23, blk a26, M]) (Ad b53 0) 4 ([0, (-1), 38400, 38401]) := ro_of_box hms0 hq53 hb53 rfl rfl (cells_at (cs := [Vi 0, Vi (-1), Vi 38400, Vi 38401]) (CellsOf.cons (c := [Vi 0]) rfl (CellsOf.cons (c := [Vi (-1)]) rfl (CellsOf.cons (c := [Vi 38400]) rfl (CellsOf.cons (c := [Vi 38401]) rfl CellsOf.nil)))))
       clear hb53 hms0
       obtain ⟨x55, hx, h⟩ := bind_some h
       have hpk : MS w53 ([[b0_7]] ++ [blk a2_14, blk a23, blk a26, M]) := hms.pick [some 0, some 1, some 2, some 3, some 4] _ rfl
       have hsb0 : ∀ x ∈ fl ([[b0_7]] ++ [blk a2_14, blk a23, blk a26, M]), x ∈ fl [[b0_7], blk a2_14, blk a23, blk a26, M] := pick_sub [some 0, some 1, some 2, some 3, some 4] _ rfl
       have hsb : ∀ x ∈ fl ([[b0_7]] ++ [(fl [blk a2_14, blk a23, blk a26, M])]), x ∈ fl [[b0_7], blk a2_14, blk a23, blk a26, M] := fun x hx => hsb0 x (fl_unfold x hx)
       have hcall := gen_Maker_Pick_w b0_7 a1_7 c1_7 x6.1 x51.2 (Ad b53 0) 4 ([0, (-1), 38400, 38401]) _ w53 (fl [blk a2_14, blk a23, blk a26, M]) (hpk.fold (P := [[b0_7]])) (hf7_2.sub hsb) hf7_1 (hs53.sub hsb) hx
       refine x_call 17 #[] #[] [Vp b0_7 0, .slice (Ad b53 0) ([0, (-1), 38400, 38401]).length 4] _ rfl rfl rfl rfl hcall ?_
       rintro v w56 ⟨rfl, he56, hp56_0⟩
       clear hcall hx
       refine inl1 ?_
       have hpk2 : MS w53 ([[b0_7]] ++ [blk a2_14, blk a23, blk a26, M]) := hms.pick [some 0, some 1, some 2, some 3, some 4] _ rfl
       have hsb2 : ∀ x ∈ fl ([[b0_7]] ++ [blk a2_14, blk a23, blk a26, M]), x ∈ fl [[b0_7], blk a2_14, blk a23, blk a26, M] := pick_sub [some 0, some 1, some 2, some 3, some 4] _ rfl
       have hst0 := Stp.call (LS := [[b0_7], blk a2_14, blk a23, blk a26, M]) (res := []) (par := [[b0_7]]) (R := [blk a2_14, blk a23, blk a26, M]) he56 (fun b hb => hsb2 b (fl_left' (P := [[b0_7]]) b hb)) (FR.nil _) (NP.init _ _) (fun x hx => hsb2 x (fl_right' (P := [[b0_7]]) x hx))
       have hsn : ∀ x ∈ fl [[b0_7], blk a2_14, blk a23, blk a26, M], x ∈ fl ([] ++ ([[b0_7]] ++ [blk a2_14, blk a23, blk a26, M])) := pick_sub [some 0, some 1, some 2, some 3, some 4] _ rfl
       have hst := hst0.res hsn
       replace hs_p1 := hs_p1.step hst
       replace hs_p2 := hs_p2.step hst
       replace hs_p3 := hs_p3.step hst
       replace hs_p4 := hs_p4.step hst
       replace hf7_2 := hf7_2.step hst
       replace hf14_1 := hf14_1.step hst
       replace hf14_2 := hf14_2.step hst he56 (MS.outs (P := [[b0_7]]) hpk2 0 rfl)
       replace ho21 := ho21.step hst he56 (MS.outs (P := [[b0_7]]) hpk2 1 rfl)
       replace ho24 := ho24.step hst he56 (MS.outs (P := [[b0_7]]) hpk2 2 rfl)
       replace hs53 := hs53.step hst
       replace hms := hms.ev he56
       have hPf : ∀ b ∈ fl [[b0_7]], w.heap.size ≤ b := FR.mem (ls := [[b0_7]]) (hfr.pick [some 0] _ rfl)
       replace hev := hev.then he56 (fun b hb => .inr (hPf b hb))
       replace hf7_1 := hp56_0
       clear hpk hsb hsb0 hpk2 hsb2 hst0 hsn hst
       obtain ⟨x57, hx57, h⟩ := bind_some h
       obtain ⟨g57, cs57, ha57, hr57, hc57, hR⟩ := own_index (Mo := []) tsl22 hf14_2 hx57
       obtain rfl := hR
       refine x_indexAddr (xv := .slice a2_14 (x13.2.1).length c2_14) (yv := Vi x51.1) (.pointer (some ⟨g57, (Int.toNat x51.1) * (eInt .i64).n, none⟩)) rfl rfl rfl rfl hr57 ?_
       obtain ⟨w61, hr61, he61, ho61⟩ := own_storeE ha57 (y := x55.1) 0 (Vi x55.1) tcell3 hf14_2 (mem_flat 1 rfl) hx57 rfl rfl (fun _ _ _ hR => set_int hR)
       refine x_store w61 (xv := .pointer (some ⟨g57, (Int.toNat x51.1) * (eInt .i64).n, none⟩)) (yv := Vi x55.1) rfl rfl rfl rfl hr61 ?_
       refine inl1 ?_
       have hst := Stp.ev' (ls := [[b0_7], blk a2_14, blk a23, blk a26, M]) he61 (mem_flat 1 rfl)
       replace hs_p1 := hs_p1.step hst
       replace hs_p2 := hs_p2.step hst
       replace hs_p3 := hs_p3.step hst
       replace hs_p4 := hs_p4.step hst
       replace hf7_1 := he61.box hf7_1 (hms.apart 0 1 rfl rfl rfl _ mem1)
       replace hf7_2 := hf7_2.step hst
       replace hf14_1 := hf14_1.step hst
       replace ho21 := ho21.step hst he61 (hms.apart 2 1 rfl rfl rfl)
       replace ho24 := ho24.step hst he61 (hms.apart 3 1 rfl rfl rfl)
       replace hs53 := hs53.step hst
       replace hms := hms.ev he61
       replace hev := hev.then he61 (fun b hb => .inr (hfr.at 1 rfl b hb))
       replace hf14_2 := ho61
       have hsl : (Value.slice a2_14 (x13.2.1).length c2_14) = (Value.slice a2_14 ((x13.2.1.set (Int.toNat x51.1) x55.1)).length c2_14) := by first | (rw [List.length_set]; done) | simp only [List.length_set]
       try rw [hsl]
       clear hsl
       refine x_end rfl ?_
       exact k_then ⟨(x55.2, (x13.2.1.set (Int.toNat x51.1) x55.1)), ⟨rfl, rfl, rfl, rfl, rfl, rfl, rfl, rfl, rfl, rfl, trivial⟩, h, hev, hms, hfr, hs_p1, hs_p2, hs_p3, hs_p4, hf7_2, hf7_1, hf14_1, hf14_2, ho21, ho24⟩
     replace h := ite_f hb h
     refine c_skip ?_
     exact k_then ⟨(e8_j38_1, x13.2.1), ⟨rfl, rfl, rfl, rfl, rfl, rfl, rfl, rfl, rfl, rfl, trivial⟩, h, hev, hms, hfr, hs_p1, hs_p2, hs_p3, hs_p4, hf7_2, hf7_1, hf14_1, hf14_2, ho21, ho24⟩
   rintro ⟨e8_j49_1, d16_j49⟩ J wj49 ⟨h, hev, hms, hfr, hs_p1, hs_p2, hs_p3, hs_p4, hf7_2, hf7_1, hf14_1, hf14_2, ho21, ho24⟩
   refine c_sp ?_
   refine x_pure 4 [(92, .slice a0_14 (x13.1).length c0_14), (93, .slice a2_14 (d16_j49).length c2_14), (94, .slice a23 (d22_j27).length c23), (95, .slice a26 (d25_j38).length c26)] _ _ _ (by kernel_rfl) ?_
   obtain ⟨x62, hx, h⟩ := bind_some h
   have hpk : MS wj49 ([] ++ [[b0_7], M]) := hms.pick [some 0, some 4] _ rfl
   have hsb0 : ∀ x ∈ fl ([] ++ [[b0_7], M]), x ∈ fl [[b0_7], blk a2_14, blk a23, blk a26, M] := pick_sub [some 0, some 4] _ rfl
   have hsb : ∀ x ∈ fl ([] ++ [(fl [[b0_7], M])]), x ∈ fl [[b0_7], blk a2_14, blk a23, blk a26, M] := fun x hx => hsb0 x (fl_unfold x hx)
   have hcall := law16_exact_w a0_14 c0_14 x13.1 a2_14 c2_14 d16_j49 a23 c23 d22_j27 a26 c26 d25_j38 _ wj49 (fl [[b0_7], M]) (MS.fold (P := []) hpk) (hf14_1.sub hsb) (hf14_2.ro hsb (fun b hb hb2 => pick_out hms 1 rfl [some 0, some 4] ([] ++ [[b0_7], M]) rfl rfl b hb (fl_unfold b hb2))) (ho21.ro hsb (fun b hb hb2 => pick_out hms 2 rfl [some 0, some 4] ([] ++ [[b0_7], M]) rfl rfl b hb (fl_unfold b hb2))) (ho24.ro hsb (fun b hb hb2 => pick_out hms 3 rfl [some 0, some 4] ([] ++ [[b0_7], M]) rfl rfl b hb (fl_unfold b hb2))) hx
   refine x_call 18 #[] #[] [.slice a0_14 (x13.1).length c0_14, .slice a2_14 (d16_j49).length c2_14, .slice a23 (d22_j27).length c23, .slice a26 (d25_j38).length c26] _ rfl rfl rfl rfl hcall ?_
   rintro v w63 ⟨rfl, he63⟩
   clear hcall hx
   refine inl1 ?_
   have hst := Stp.ext (ls := [[b0_7], blk a2_14, blk a23, blk a26, M]) he63
   replace hs_p1 := hs_p1.step hst
   replace hs_p2 := hs_p2.step hst
   replace hs_p3 := hs_p3.step hst
   replace hs_p4 := hs_p4.step hst
   replace hf7_1 := he63.box hf7_1 nn
   replace hf7_2 := hf7_2.step hst
   replace hf14_1 := hf14_1.step hst
   replace hf14_2 := hf14_2.step hst he63 nn2
   replace ho21 := ho21.step hst he63 nn2
   replace ho24 := ho24.step hst he63 nn2
   replace hms := hms.ev he63
   replace hev := hev.ext he63
   clear hpk hsb hsb0
   refine x_pure 1 [(97, .bool (!x62))] _ _ _ (by kernel_rfl) ?_
   refine x_ek ?_
   refine c_norm [(1, .slice a_p1 (p1).length c_p1), (2, .slice a_p2 (p2).length c_p2), (3, .slice a_p3 (p3).length c_p3), (4, .slice a_p4 (p4).length c_p4), (11, Vp b0_7 0), (12, Vi i_s12_l11), (97, .bool (!x62))] ⟨rfl, rfl, rfl, rfl, rfl, rfl, rfl, trivial⟩ (fun J => ?_)
   refine c_cond (!x62) rfl (fun hb => ?_) (fun hb => ?_)
   · replace h := ite_t hb h
     refine c_sp ?_
     refine x_pure 1 [(10, .bool false)] _ _ _ (by kernel_rfl) ?_
     refine x_ek ?_
     refine c_ret ?_
     refine k_block_ret ?_
     refine k_then_ret ?_
     have hx := some_inj h
     subst hx
     have hy := some_inj hn11
     subst hy
     replace h := h11
     refine k_then_ret ?_
     refine k_block_ret ?_
     refine k_then_ret ?_
     refine r_ret (r_vals [.bool false] ⟨rfl, trivial⟩ ?_)
     have hx := some_inj h
     subst hx
     have hmr : MS w63 [M] := hms.pick [some 4] _ rfl
     have hsu : ∀ x ∈ fl [M], x ∈ fl [[b0_7], blk a2_14, blk a23, blk a26, M] := pick_sub [some 4] _ rfl
     exact ⟨rfl, hev⟩
   replace h := ite_f hb h
   refine c_skip ?_
   refine k_block ?_
   refine k_then ?_
   refine c_plain ?_
   refine x_pure 3 [(22, Vi i_s12_l11), (23, Vi (IntKind.i64.wrap (i_s12_l11 + 1))), (12, Vi (IntKind.i64.wrap (i_s12_l11 + 1)))] _ _ _ (by kernel_rfl) ?_
   refine x_end rfl ?_
   have hx := some_inj h
   subst hx
   have hpk : MS w63 [[b0_7], M] := hms.pick [some 0, some 4] _ rfl
   have hsu : ∀ x ∈ fl [[b0_7], M], x ∈ fl [[b0_7], blk a2_14, blk a23, blk a26, M] := pick_sub [some 0, some 4] _ rfl
   replace hs_p1 := hs_p1.sub hsu
   replace hs_p2 := hs_p2.sub hsu
   replace hs_p3 := hs_p3.sub hsu
   replace hs_p4 := hs_p4.sub hsu
   replace hf7_2 := hf7_2.sub hsu
   replace hms := hpk
   replace hfr : FR w.heap.size [[b0_7]] := hfr.pick [some 0] _ rfl
   clear hpk hsu
   exact k_then ⟨(m11, e8_j49_1, IntKind.i64.wrap (i_s12_l11 + 1)), ⟨rfl, rfl, rfl, rfl, rfl, rfl, trivial⟩, ⟨hn11, hev, hms, hfr, hs_p1, hs_p2, hs_p3, hs_p4, hf7_2, hf7_1⟩, Nat.lt_succ_self _⟩
 replace h := ite_f hb h
 refine c_exit ?_
 refine k_then_exit ?_
 have hx := some_inj h
 subst hx
 have hy := some_inj hn11
 subst hy
 replace h := h11
 refine k_then_exit ?_
 refine k_block_in ?_
 refine k_then ?_
 refine c_norm [(1, .slice a_p1 (p1).length c_p1), (2, .slice a_p2 (p2).length c_p2), (3, .slice a_p3 (p3).length c_p3), (4, .slice a_p4 (p4).length c_p4)] ⟨rfl, rfl, rfl, rfl, trivial⟩ (fun J => ?_)
 refine c_sp ?_
 refine x_pure 1 [(98, .slice a_p1 (p1).length c_p1)] _ _ _ (by kernel_rfl) ?_
 refine x_len (vs := [.slice a_p1 (p1).length c_p1]) (Vi ((p1).length : Int)) rfl rfl rfl (reads_len tsl22 _ _ _ _ _) ?_
 refine x_pure 1 [(100, .slice a_p2 (p2).length c_p2)] _ _ _ (by kernel_rfl) ?_
 refine x_len (vs := [.slice a_p2 (p2).length c_p2]) (Vi ((p2).length : Int)) rfl rfl rfl (reads_len tsl22 _ _ _ _ _) ?_
 refine x_pure 2 [(102, Vi (IntKind.i64.wrap (((p1).length : Int) + ((p2).length : Int)))), (103, .slice a_p3 (p3).length c_p3)] _ _ _ (by kernel_rfl) ?_
 refine x_len (vs := [.slice a_p3 (p3).length c_p3]) (Vi ((p3).length : Int)) rfl rfl rfl (reads_len tsl22 _ _ _ _ _) ?_
 refine x_pure 2 [(105, Vi (IntKind.i64.wrap ((IntKind.i64.wrap (((p1).length : Int) + ((p2).length : Int))) + ((p3).length : Int)))), (106, .slice a_p4 (p4).length c_p4)] _ _ _ (by kernel_rfl) ?_
 refine x_len (vs := [.slice a_p4 (p4).length c_p4]) (Vi ((p4).length : Int)) rfl rfl rfl (reads_len tsl22 _ _ _ _ _) ?_
 refine x_pure 3 [(108, Vi (IntKind.i64.wrap ((IntKind.i64.wrap ((IntKind.i64.wrap (((p1).length : Int) + ((p2).length : Int))) + ((p3).length : Int))) + ((p4).length : Int)))), (109, .bool (decide ((IntKind.i64.wrap ((IntKind.i64.wrap ((IntKind.i64.wrap (((p1).length : Int) + ((p2).length : Int))) + ((p3).length : Int))) + ((p4).length : Int))) > 200))), (110, .bool (decide ((IntKind.i64.wrap ((IntKind.i64.wrap ((IntKind.i64.wrap (((p1).length : Int) + ((p2).length : Int))) + ((p3).length : Int))) + ((p4).length : Int))) > 200)))] _ _ _ (by kernel_rfl) ?_
 refine x_split 110 (decide ((IntKind.i64.wrap ((IntKind.i64.wrap ((IntKind.i64.wrap (((p1).length : Int) + ((p2).length : Int))) + ((p3).length : Int))) + ((p4).length : Int))) > 200)) rfl (fun hb => ?_) (fun hb => ?_)
 · replace h := ite_t hb h
   refine x_pure 10 [(111, undef), (112, undef), (113, undef), (114, undef), (115, undef), (116, undef), (117, undef), (118, undef), (119, .bool true), (10, .bool true)] _ _ _ (by kernel_rfl) ?_
   refine x_ek ?_
   refine c_norm [(10, .bool true)] ⟨rfl, trivial⟩ (fun J => ?_)
   refine c_ret ?_
   refine r_ret (r_vals [.bool true] ⟨rfl, trivial⟩ ?_)
   have hx := some_inj h
   subst hx
   have hmr : MS wl11 [M] := hms.pick [some 1] _ rfl
   have hsu : ∀ x ∈ fl [M], x ∈ fl [[b0_7], M] := pick_sub [some 1] _ rfl
   exact ⟨rfl, hev⟩
 replace h := ite_f hb h
 refine x_pure 4 [(111, .slice a_p1 (p1).length c_p1), (112, .slice a_p2 (p2).length c_p2), (113, .slice a_p3 (p3).length c_p3), (114, .slice a_p4 (p4).length c_p4)] _ _ _ (by kernel_rfl) ?_
 obtain ⟨x64, hx, h⟩ := bind_some h
 have hpk : MS wl11 ([] ++ [[b0_7], M]) := hms.pick [some 0, some 1] _ rfl
 have hsb0 : ∀ x ∈ fl ([] ++ [[b0_7], M]), x ∈ fl [[b0_7], M] := pick_sub [some 0, some 1] _ rfl
 have hsb : ∀ x ∈ fl ([] ++ [(fl [[b0_7], M])]), x ∈ fl [[b0_7], M] := fun x hx => hsb0 x (fl_unfold x hx)
 have hcall := law16_exact_w a_p1 c_p1 p1 a_p2 c_p2 p2 a_p3 c_p3 p3 a_p4 c_p4 p4 _ wl11 (fl [[b0_7], M]) (MS.fold (P := []) hpk) (hs_p1.sub hsb) (hs_p2.sub hsb) (hs_p3.sub hsb) (hs_p4.sub hsb) hx
 refine x_call 18 #[] #[] [.slice a_p1 (p1).length c_p1, .slice a_p2 (p2).length c_p2, .slice a_p3 (p3).length c_p3, .slice a_p4 (p4).length c_p4] _ rfl rfl rfl rfl hcall ?_
 rintro v w65 ⟨rfl, he65⟩
 clear hcall hx
 refine inl1 ?_
 have hst := Stp.ext (ls := [[b0_7], M]) he65
 replace hs_p1 := hs_p1.step hst
 replace hs_p2 := hs_p2.step hst
 replace hs_p3 := hs_p3.step hst
 replace hs_p4 := hs_p4.step hst
 replace hf7_1 := he65.box hf7_1 nn
 replace hf7_2 := hf7_2.step hst
 replace hms := hms.ev he65
 replace hev := hev.ext he65
 clear hpk hsb hsb0
 refine x_pure 1 [(116, .bool x64)] _ _ _ (by kernel_rfl) ?_
 refine x_split 116 x64 rfl (fun hb => ?_) (fun hb => ?_)
 · replace h := ite_t hb h
   obtain ⟨x66, hx, h⟩ := bind_some h
   have hcall := law16_sane_w _ w65 hx
   refine x_call 9 #[] #[] [] _ rfl rfl rfl rfl hcall ?_
   rintro v w67 ⟨rfl, he67⟩
   clear hcall hx
   refine inl1 ?_
   have hst := Stp.ext (ls := [[b0_7], M]) he67
   replace hs_p1 := hs_p1.step hst
   replace hs_p2 := hs_p2.step hst
   replace hs_p3 := hs_p3.step hst
   replace hs_p4 := hs_p4.step hst
   replace hf7_1 := he67.box hf7_1 nn
   replace hf7_2 := hf7_2.step hst
   replace hms := hms.ev he67
   replace hev := hev.ext he67
   refine x_pure 3 [(118, .bool x66), (119, .bool x66), (10, .bool x66)] _ _ _ (by kernel_rfl) ?_
   refine x_ek ?_
   refine c_norm [(10, .bool x66)] ⟨rfl, trivial⟩ (fun J => ?_)
   refine c_ret ?_
   refine r_ret (r_vals [.bool x66] ⟨rfl, trivial⟩ ?_)
   have hx := some_inj h
   subst hx
   have hmr : MS w67 [M] := hms.pick [some 1] _ rfl
   have hsu : ∀ x ∈ fl [M], x ∈ fl [[b0_7], M] := pick_sub [some 1] _ rfl
   exact ⟨rfl, hev⟩
 replace h := ite_f hb h
 refine x_pure 4 [(117, undef), (118, .bool false), (119, .bool false), (10, .bool false)] _ _ _ (by kernel_rfl) ?_
 refine x_ek ?_
 refine c_norm [(10, .bool false)] ⟨rfl, trivial⟩ (fun J => ?_)
 refine c_ret ?_
 refine r_ret (r_vals [.bool false] ⟨rfl, trivial⟩ ?_)
 have hx := some_inj h
 subst hx
 have hmr : MS w65 [M] := hms.pick [some 1] _ rfl
 have hsu : ∀ x ∈ fl [M], x ∈ fl [[b0_7], M] := pick_sub [some 1] _ rfl
 exact ⟨rfl, hev⟩
end Go.Proofs.Ytdbomhhcebmkpaa
