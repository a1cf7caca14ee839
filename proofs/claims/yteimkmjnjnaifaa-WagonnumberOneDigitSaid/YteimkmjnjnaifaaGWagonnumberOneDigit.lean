/- Walks, printed by program: each function returns what the partial function of the same name returns. Conditions: those of each theorem. -/
import Derived.Test.YteimkmjnjnaifaaGT
import Derived.Test.YteimkmjnjnaifaaGgen
import Derived.Test.YteimkmjnjnaifaaGlaw02sane
import Derived.Test.YteimkmjnjnaifaaGwagonnumber
set_option linter.unusedVariables false
set_option linter.unusedSimpArgs false
set_option maxRecDepth 4000
namespace Go.Proofs.Yteimkmjnjnaifaa
open Go Go.V Go.Proofs
def law02_WagonnumberOneDigit_L20 (x6 : (List UInt8) × Int) (x16 : (List (List UInt8)) × Int) (s : Bool × Int) : Option (Step (Bool × Int) Bool) :=
match s with
| (found_s12_l20, t63__s63_l20) =>
(if (decide (t63__s63_l20 < ((x16.1).length : Int))) = true then
((idx x16.1 t63__s63_l20).bind fun x22 =>
(if found_s12_l20 = true then
some (.next (true, IntKind.i64.wrap (t63__s63_l20 + 1)))
else
some (.next (x22 == x6.1, IntKind.i64.wrap (t63__s63_l20 + 1)))))
else
some (.done found_s12_l20))

def law02_WagonnumberOneDigit (p0 : List Int) (p1 : Int) (p2 : Int) : Option Bool :=
((gen_New p0).bind fun x2 =>
((gen_Maker_Number x2.1 x2.2 1).bind fun x6 =>
((sAt x6.1 (Int.tmod (IntKind.i64.wrap ((Int.tmod p1 12) + 12)) 12)).bind fun x8 =>
(if 0 ≤ ((0 : Int) : Int) ∧ ((0 : Int) : Int) ≤ (Int.tmod (IntKind.i64.wrap ((Int.tmod p1 12) + 12)) 12 : Int) ∧ (Int.tmod (IntKind.i64.wrap ((Int.tmod p1 12) + 12)) 12 : Int) ≤ (x6.1.length : Int) then
(if 0 ≤ (IntKind.i64.wrap ((Int.tmod (IntKind.i64.wrap ((Int.tmod p1 12) + 12)) 12) + 1) : Int) ∧ (IntKind.i64.wrap ((Int.tmod (IntKind.i64.wrap ((Int.tmod p1 12) + 12)) 12) + 1) : Int) ≤ ((x6.1.length : Int) : Int) ∧ ((x6.1.length : Int) : Int) ≤ (x6.1.length : Int) then
(if ((x6.1.drop (Int.toNat (0 : Int))).take (Int.toNat (Int.tmod (IntKind.i64.wrap ((Int.tmod p1 12) + 12)) 12) - Int.toNat (0 : Int))).length + (ofB ([IntKind.u8.wrap (IntKind.i64.wrap (48 + (Int.tmod (IntKind.i64.wrap ((IntKind.i64.wrap ((IntKind.i64.wrap (IntKind.u8.wrap (x8 - 48))) + 1)) + (Int.tmod (IntKind.i64.wrap ((Int.tmod p2 9) + 9)) 9))) 10)))])).length ≤ 4294967296 then
(if (((x6.1.drop (Int.toNat (0 : Int))).take (Int.toNat (Int.tmod (IntKind.i64.wrap ((Int.tmod p1 12) + 12)) 12) - Int.toNat (0 : Int))) ++ (ofB ([IntKind.u8.wrap (IntKind.i64.wrap (48 + (Int.tmod (IntKind.i64.wrap ((IntKind.i64.wrap ((IntKind.i64.wrap (IntKind.u8.wrap (x8 - 48))) + 1)) + (Int.tmod (IntKind.i64.wrap ((Int.tmod p2 9) + 9)) 9))) 10)))]))).length + ((x6.1.drop (Int.toNat (IntKind.i64.wrap ((Int.tmod (IntKind.i64.wrap ((Int.tmod p1 12) + 12)) 12) + 1)))).take (Int.toNat (x6.1.length : Int) - Int.toNat (IntKind.i64.wrap ((Int.tmod (IntKind.i64.wrap ((Int.tmod p1 12) + 12)) 12) + 1)))).length ≤ 4294967296 then
((wagonnumber_Valid x6.1).bind fun x12 =>
(if (x12 != 0) = true then
some false
else
((wagonnumber_Valid ((((x6.1.drop (Int.toNat (0 : Int))).take (Int.toNat (Int.tmod (IntKind.i64.wrap ((Int.tmod p1 12) + 12)) 12) - Int.toNat (0 : Int))) ++ (ofB ([IntKind.u8.wrap (IntKind.i64.wrap (48 + (Int.tmod (IntKind.i64.wrap ((IntKind.i64.wrap ((IntKind.i64.wrap (IntKind.u8.wrap (x8 - 48))) + 1)) + (Int.tmod (IntKind.i64.wrap ((Int.tmod p2 9) + 9)) 9))) 10)))]))) ++ ((x6.1.drop (Int.toNat (IntKind.i64.wrap ((Int.tmod (IntKind.i64.wrap ((Int.tmod p1 12) + 12)) 12) + 1)))).take (Int.toNat (x6.1.length : Int) - Int.toNat (IntKind.i64.wrap ((Int.tmod (IntKind.i64.wrap ((Int.tmod p1 12) + 12)) 12) + 1)))))).bind fun x14 =>
(if (x14 != 9) = true then
some false
else
((wagonnumber_Repairs ((((x6.1.drop (Int.toNat (0 : Int))).take (Int.toNat (Int.tmod (IntKind.i64.wrap ((Int.tmod p1 12) + 12)) 12) - Int.toNat (0 : Int))) ++ (ofB ([IntKind.u8.wrap (IntKind.i64.wrap (48 + (Int.tmod (IntKind.i64.wrap ((IntKind.i64.wrap ((IntKind.i64.wrap (IntKind.u8.wrap (x8 - 48))) + 1)) + (Int.tmod (IntKind.i64.wrap ((Int.tmod p2 9) + 9)) 9))) 10)))]))) ++ ((x6.1.drop (Int.toNat (IntKind.i64.wrap ((Int.tmod (IntKind.i64.wrap ((Int.tmod p1 12) + 12)) 12) + 1)))).take (Int.toNat (x6.1.length : Int) - Int.toNat (IntKind.i64.wrap ((Int.tmod (IntKind.i64.wrap ((Int.tmod p1 12) + 12)) 12) + 1)))))).bind fun x16 =>
((loop (law02_WagonnumberOneDigit_L20 x6 x16) (false, 0)).bind fun d => match d with
| found_s12_x20 => (if (x16.2 == 0) = true then
(if found_s12_x20 = true then
((law02_sane).bind fun x24 =>
some x24)
else
some false)
else
some false)))))))
else none)
else none)
else none)
else none))))

theorem law02_WagonnumberOneDigit_w (a_p0 : Option Addr) (c_p0 : Nat) (p0 : List Int) (p1 : Int) (p2 : Int) (r : Bool) (w : World) (M : List Nat) (hms : MS w [M]) (hs_p0 : SlR (eInt .i64) w (fl [M]) a_p0 c_p0 p0) (h : law02_WagonnumberOneDigit p0 p1 p2 = some r) : CallVC Try.prog 3 [.slice a_p0 (p0).length c_p0, Vi p1, Vi p2] w fun v w' => v = .bool r ∧ Ev [] w w' := by
 refine calls_vc hmx Try.func3 (by kernel_rfl) rfl (rs := [.tmp 6]) rfl (by kernel_rfl) (args := [.slice a_p0 (p0).length c_p0, Vi p1, Vi p2]) rfl ?_
 have hev : Ev [] w w := Ev.refl _ _
 have hfr : FR w.heap.size [] := FR.nil _
 refine c_sp ?_
 refine x_pure 1 [(6, .bool false)] _ _ _ (by kernel_rfl) ?_
 refine x_ek ?_
 refine c_sp ?_
 refine x_pure 1 [(15, .slice a_p0 (p0).length c_p0)] _ _ _ (by kernel_rfl) ?_
 obtain ⟨x2, hx, h⟩ := bind_some h
 have hpk : MS w ([] ++ [M]) := hms.pick [some 0] _ rfl
 have hsb0 : ∀ x ∈ fl ([] ++ [M]), x ∈ fl [M] := pick_sub [some 0] _ rfl
 have hsb : ∀ x ∈ fl ([] ++ [(fl [M])]), x ∈ fl [M] := fun x hx => hsb0 x (fl_unfold x hx)
 have hcall := gen_New_w a_p0 c_p0 p0 _ w (fl [M]) (MS.fold (P := []) hpk) (hs_p0.sub hsb) hx
 refine x_call 9 #[] #[] [.slice a_p0 (p0).length c_p0] _ rfl rfl rfl rfl hcall ?_
 rintro v w3 ⟨b0_3, a1_3, c1_3, rfl, he3, hmn3, hfn3, hf3_1, hf3_2⟩
 clear hcall hx
 refine inl1 ?_
 have hpk2 : MS w ([] ++ [M]) := hms.pick [some 0] _ rfl
 have hsb2 : ∀ x ∈ fl ([] ++ [M]), x ∈ fl [M] := pick_sub [some 0] _ rfl
 have hst0 := Stp.call (LS := [M]) (res := [[b0_3]]) (par := []) (R := [M]) he3 (fun b hb => hsb2 b (fl_left' (P := []) b hb)) hfn3 (NP.init _ _) (fun x hx => hsb2 x (fl_right' (P := []) x hx))
 have hsn : ∀ x ∈ fl [[b0_3], M], x ∈ fl ([[b0_3]] ++ ([] ++ [M])) := pick_sub [some 0, some 1] _ rfl
 have hst := hst0.res hsn
 replace hs_p0 := hs_p0.step hst
 replace hms : MS w3 [[b0_3], M] := (MS.call (P := []) (R := [M]) (res := [[b0_3]]) (par := []) hpk2 he3 hmn3 hfn3 (NP.init _ _)).pick [some 0, some 1] _ rfl
 have hfr2 : FR w.heap.size [[b0_3]] := (FR.cons (fun b hb => Nat.le_trans hev.size (hfn3.at 0 rfl b hb)) (FR.nil _))
 replace hev := hev.ext he3
 replace hfr := hfr2
 clear hfr2
 have hsp : ∀ x ∈ fl [[b0_3], M], x ∈ fl ([[b0_3]] ++ ([] ++ [(fl [M])])) := fun x hx => fl_tot (res := [[b0_3]]) (par := []) (R := [M]) x (hsn x hx)
 replace hf3_2 := hf3_2.sub hsp
 clear hpk hsb hsb0 hpk2 hsb2 hst0 hsn hst
 obtain ⟨x6, hx, h⟩ := bind_some h
 have hpk : MS w3 ([[b0_3]] ++ [M]) := hms.pick [some 0, some 1] _ rfl
 have hsb0 : ∀ x ∈ fl ([[b0_3]] ++ [M]), x ∈ fl [[b0_3], M] := pick_sub [some 0, some 1] _ rfl
 have hsb : ∀ x ∈ fl ([[b0_3]] ++ [(fl [M])]), x ∈ fl [[b0_3], M] := fun x hx => hsb0 x (fl_unfold x hx)
 have hcall := gen_Maker_Number_w b0_3 a1_3 c1_3 x2.1 x2.2 1 _ w3 (fl [M]) (hpk.fold (P := [[b0_3]])) (hf3_2.sub hsb) hf3_1 hx
 refine x_call 10 #[] #[] [Vp b0_3 0, Vi 1] _ rfl rfl rfl rfl hcall ?_
 rintro v w7 ⟨rfl, he7, hp7_0⟩
 clear hcall hx
 refine inl1 ?_
 have hpk2 : MS w3 ([[b0_3]] ++ [M]) := hms.pick [some 0, some 1] _ rfl
 have hsb2 : ∀ x ∈ fl ([[b0_3]] ++ [M]), x ∈ fl [[b0_3], M] := pick_sub [some 0, some 1] _ rfl
 have hst0 := Stp.call (LS := [[b0_3], M]) (res := []) (par := [[b0_3]]) (R := [M]) he7 (fun b hb => hsb2 b (fl_left' (P := [[b0_3]]) b hb)) (FR.nil _) (NP.init _ _) (fun x hx => hsb2 x (fl_right' (P := [[b0_3]]) x hx))
 have hsn : ∀ x ∈ fl [[b0_3], M], x ∈ fl ([] ++ ([[b0_3]] ++ [M])) := pick_sub [some 0, some 1] _ rfl
 have hst := hst0.res hsn
 replace hs_p0 := hs_p0.step hst
 replace hf3_2 := hf3_2.step hst
 replace hms := hms.ev he7
 have hPf : ∀ b ∈ fl [[b0_3]], w.heap.size ≤ b := FR.mem (ls := [[b0_3]]) (hfr.pick [some 0] _ rfl)
 replace hev := hev.then he7 (fun b hb => .inr (hPf b hb))
 replace hf3_1 := hp7_0
 clear hpk hsb hsb0 hpk2 hsb2 hst0 hsn hst
 refine x_pure 1 [(7, Vs x6.1)] _ _ _ (by kernel_rfl) ?_
 refine x_ek ?_
 refine c_sp ?_
 refine x_pure 5 [(18, Vi p1), (19, Vi (Int.tmod p1 12)), (20, Vi (IntKind.i64.wrap ((Int.tmod p1 12) + 12))), (21, Vi (Int.tmod (IntKind.i64.wrap ((Int.tmod p1 12) + 12)) 12)), (1, Vi (Int.tmod (IntKind.i64.wrap ((Int.tmod p1 12) + 12)) 12))] _ _ _ (by kernel_rfl) ?_
 refine x_ek ?_
 refine c_sp ?_
 refine x_pure 2 [(22, Vs x6.1), (23, Vi (Int.tmod (IntKind.i64.wrap ((Int.tmod p1 12) + 12)) 12))] _ _ _ (by kernel_rfl) ?_
 obtain ⟨x8, hx8, h⟩ := bind_some h
 refine x_index (xv := Vs x6.1) (yv := Vi (Int.tmod (IntKind.i64.wrap ((Int.tmod p1 12) + 12)) 12)) (.int .u8 x8) rfl rfl rfl rfl (reads_sindex tstr9 hx8) ?_
 refine x_pure 1 [(25, .int .u8 (IntKind.u8.wrap (x8 - 48)))] _ _ _ (by kernel_rfl) ?_
 refine x_convert (Vi (IntKind.i64.wrap (IntKind.u8.wrap (x8 - 48)))) _ rfl rfl rfl (tcv5_3 (IntKind.u8.wrap (x8 - 48)) _) ?_
 refine inl1 ?_
 refine x_pure 8 [(27, Vi (IntKind.i64.wrap ((IntKind.i64.wrap (IntKind.u8.wrap (x8 - 48))) + 1))), (28, Vi p2), (29, Vi (Int.tmod p2 9)), (30, Vi (IntKind.i64.wrap ((Int.tmod p2 9) + 9))), (31, Vi (Int.tmod (IntKind.i64.wrap ((Int.tmod p2 9) + 9)) 9)), (32, Vi (IntKind.i64.wrap ((IntKind.i64.wrap ((IntKind.i64.wrap (IntKind.u8.wrap (x8 - 48))) + 1)) + (Int.tmod (IntKind.i64.wrap ((Int.tmod p2 9) + 9)) 9)))), (33, Vi (Int.tmod (IntKind.i64.wrap ((IntKind.i64.wrap ((IntKind.i64.wrap (IntKind.u8.wrap (x8 - 48))) + 1)) + (Int.tmod (IntKind.i64.wrap ((Int.tmod p2 9) + 9)) 9))) 10)), (8, Vi (Int.tmod (IntKind.i64.wrap ((IntKind.i64.wrap ((IntKind.i64.wrap (IntKind.u8.wrap (x8 - 48))) + 1)) + (Int.tmod (IntKind.i64.wrap ((Int.tmod p2 9) + 9)) 9))) 10))] _ _ _ (by kernel_rfl) ?_
 refine x_ek ?_
 refine c_norm [(1, Vi (Int.tmod (IntKind.i64.wrap ((Int.tmod p1 12) + 12)) 12)), (7, Vs x6.1), (8, Vi (Int.tmod (IntKind.i64.wrap ((IntKind.i64.wrap ((IntKind.i64.wrap (IntKind.u8.wrap (x8 - 48))) + 1)) + (Int.tmod (IntKind.i64.wrap ((Int.tmod p2 9) + 9)) 9))) 10))] ⟨rfl, rfl, rfl, trivial⟩ (fun J => ?_)
 refine c_seq ?_
 refine c_drawn [] [(0, false), (1, false), (2, false), (3, false), (4, false), (9, false), (10, false), (11, false), (12, false), (5, false), (6, false), (7, false), (8, false), (13, false), (14, false)] _ (by kernel_rfl) rfl ?_
 have hst := Stp.ext (ls := [[b0_3], M]) (Ev.drew w7)
 replace hf3_1 := (Ev.drew w7).box hf3_1 nn
 replace hf3_2 := hf3_2.step hst
 replace hms := hms.ev (Ev.drew w7)
 replace hev := hev.ext (Ev.drew w7)
 refine x_pure 2 [(34, Vs x6.1), (35, Vi (Int.tmod (IntKind.i64.wrap ((Int.tmod p1 12) + 12)) 12))] _ _ _ (by kernel_rfl) ?_
 have hg := guard_l h
 replace h := guard_r h
 refine x_slice (xv := Vs x6.1) (lv := none) (hv := (some (Vi (Int.tmod (IntKind.i64.wrap ((Int.tmod p1 12) + 12)) 12)))) (mv := none) (Vs ((x6.1.drop (Int.toNat (0 : Int))).take (Int.toNat (Int.tmod (IntKind.i64.wrap ((Int.tmod p1 12) + 12)) 12) - Int.toNat (0 : Int)))) rfl rfl rfl rfl rfl rfl (reads_scut tstr9 _ none (some (Int.tmod (IntKind.i64.wrap ((Int.tmod p1 12) + 12)) 12)) hg) ?_
 refine x_pure 5 [(37, Vi (Int.tmod (IntKind.i64.wrap ((IntKind.i64.wrap ((IntKind.i64.wrap (IntKind.u8.wrap (x8 - 48))) + 1)) + (Int.tmod (IntKind.i64.wrap ((Int.tmod p2 9) + 9)) 9))) 10)), (38, Vi (IntKind.i64.wrap (48 + (Int.tmod (IntKind.i64.wrap ((IntKind.i64.wrap ((IntKind.i64.wrap (IntKind.u8.wrap (x8 - 48))) + 1)) + (Int.tmod (IntKind.i64.wrap ((Int.tmod p2 9) + 9)) 9))) 10)))), (43, Vs x6.1), (44, Vi (Int.tmod (IntKind.i64.wrap ((Int.tmod p1 12) + 12)) 12)), (45, Vi (IntKind.i64.wrap ((Int.tmod (IntKind.i64.wrap ((Int.tmod p1 12) + 12)) 12) + 1)))] _ _ _ (by kernel_rfl) ?_
 have hg := guard_l h
 replace h := guard_r h
 refine x_slice (xv := Vs x6.1) (lv := (some (Vi (IntKind.i64.wrap ((Int.tmod (IntKind.i64.wrap ((Int.tmod p1 12) + 12)) 12) + 1))))) (hv := none) (mv := none) (Vs ((x6.1.drop (Int.toNat (IntKind.i64.wrap ((Int.tmod (IntKind.i64.wrap ((Int.tmod p1 12) + 12)) 12) + 1)))).take (Int.toNat (x6.1.length : Int) - Int.toNat (IntKind.i64.wrap ((Int.tmod (IntKind.i64.wrap ((Int.tmod p1 12) + 12)) 12) + 1))))) rfl rfl rfl rfl rfl rfl (reads_scut tstr9 _ (some (IntKind.i64.wrap ((Int.tmod (IntKind.i64.wrap ((Int.tmod p1 12) + 12)) 12) + 1))) none hg) ?_
 refine x_convert (.int .u8 (IntKind.u8.wrap (IntKind.i64.wrap (48 + (Int.tmod (IntKind.i64.wrap ((IntKind.i64.wrap ((IntKind.i64.wrap (IntKind.u8.wrap (x8 - 48))) + 1)) + (Int.tmod (IntKind.i64.wrap ((Int.tmod p2 9) + 9)) 9))) 10))))) _ rfl rfl rfl (tcv3_5 (IntKind.i64.wrap (48 + (Int.tmod (IntKind.i64.wrap ((IntKind.i64.wrap ((IntKind.i64.wrap (IntKind.u8.wrap (x8 - 48))) + 1)) + (Int.tmod (IntKind.i64.wrap ((Int.tmod p2 9) + 9)) 9))) 10))) _) ?_
 refine ⟨.inr (Ev.refl _ _), ?_⟩
 refine x_buildSlice (vs := [(0, .int .u8 (IntKind.u8.wrap (IntKind.i64.wrap (48 + (Int.tmod (IntKind.i64.wrap ((IntKind.i64.wrap ((IntKind.i64.wrap (IntKind.u8.wrap (x8 - 48))) + 1)) + (Int.tmod (IntKind.i64.wrap ((Int.tmod p2 9) + 9)) 9))) 10)))))]) #[.int .u8 (IntKind.u8.wrap (IntKind.i64.wrap (48 + (Int.tmod (IntKind.i64.wrap ((IntKind.i64.wrap ((IntKind.i64.wrap (IntKind.u8.wrap (x8 - 48))) + 1)) + (Int.tmod (IntKind.i64.wrap ((Int.tmod p2 9) + 9)) 9))) 10))))] 5 rfl rfl rfl (by kernel_rfl) (fun b9 w9 hq9 hb9 he9 hz9 => ?_)
 refine ⟨.inr he9, ?_⟩
 have hms0 := hms
 have hst := Stp.ext (ls := [[b0_3], M]) he9
 replace hf3_1 := he9.box hf3_1 nn
 replace hf3_2 := hf3_2.step hst
 replace hms := hms.ev he9
 replace hev := hev.ext he9
 have hs9 : SlR (eInt .u8) w9 (fl [[b0_3], M]) (Ad b9 0) 1 ([IntKind.u8.wrap (IntKind.i64.wrap (48 + (Int.tmod (IntKind.i64.wrap ((IntKind.i64.wrap ((IntKind.i64.wrap (IntKind.u8.wrap (x8 - 48))) + 1)) + (Int.tmod (IntKind.i64.wrap ((Int.tmod p2 9) + 9)) 9))) 10)))]) := ro_of_box hms0 hq9 hb9 rfl rfl (cells_at (cs := [.int .u8 (IntKind.u8.wrap (IntKind.i64.wrap (48 + (Int.tmod (IntKind.i64.wrap ((IntKind.i64.wrap ((IntKind.i64.wrap (IntKind.u8.wrap (x8 - 48))) + 1)) + (Int.tmod (IntKind.i64.wrap ((Int.tmod p2 9) + 9)) 9))) 10))))]) (CellsOf.cons (c := [.int .u8 (IntKind.u8.wrap (IntKind.i64.wrap (48 + (Int.tmod (IntKind.i64.wrap ((IntKind.i64.wrap ((IntKind.i64.wrap (IntKind.u8.wrap (x8 - 48))) + 1)) + (Int.tmod (IntKind.i64.wrap ((Int.tmod p2 9) + 9)) 9))) 10))))]) rfl CellsOf.nil))
 clear hb9 hms0
 refine x_convert (xv := .slice (Ad b9 0) ([IntKind.u8.wrap (IntKind.i64.wrap (48 + (Int.tmod (IntKind.i64.wrap ((IntKind.i64.wrap ((IntKind.i64.wrap (IntKind.u8.wrap (x8 - 48))) + 1)) + (Int.tmod (IntKind.i64.wrap ((Int.tmod p2 9) + 9)) 9))) 10)))]).length 1) (Vs (ofB ([IntKind.u8.wrap (IntKind.i64.wrap (48 + (Int.tmod (IntKind.i64.wrap ((IntKind.i64.wrap ((IntKind.i64.wrap (IntKind.u8.wrap (x8 - 48))) + 1)) + (Int.tmod (IntKind.i64.wrap ((Int.tmod p2 9) + 9)) 9))) 10)))]))) _ rfl rfl rfl (run_ofB tuns26 tint5 tstr9 hs9) ?_
 refine ⟨.inr (Ev.refl _ _), ?_⟩
 refine x_binop (Vs (((x6.1.drop (Int.toNat (0 : Int))).take (Int.toNat (Int.tmod (IntKind.i64.wrap ((Int.tmod p1 12) + 12)) 12) - Int.toNat (0 : Int))) ++ (ofB ([IntKind.u8.wrap (IntKind.i64.wrap (48 + (Int.tmod (IntKind.i64.wrap ((IntKind.i64.wrap ((IntKind.i64.wrap (IntKind.u8.wrap (x8 - 48))) + 1)) + (Int.tmod (IntKind.i64.wrap ((Int.tmod p2 9) + 9)) 9))) 10)))])))) (Vs ((x6.1.drop (Int.toNat (0 : Int))).take (Int.toNat (Int.tmod (IntKind.i64.wrap ((Int.tmod p1 12) + 12)) 12) - Int.toNat (0 : Int)))) (Vs (ofB ([IntKind.u8.wrap (IntKind.i64.wrap (48 + (Int.tmod (IntKind.i64.wrap ((IntKind.i64.wrap ((IntKind.i64.wrap (IntKind.u8.wrap (x8 - 48))) + 1)) + (Int.tmod (IntKind.i64.wrap ((Int.tmod p2 9) + 9)) 9))) 10)))]))) rfl rfl rfl rfl (bin_sadd (guard_l h)) ?_
 replace h := guard_r h
 refine x_binop (Vs ((((x6.1.drop (Int.toNat (0 : Int))).take (Int.toNat (Int.tmod (IntKind.i64.wrap ((Int.tmod p1 12) + 12)) 12) - Int.toNat (0 : Int))) ++ (ofB ([IntKind.u8.wrap (IntKind.i64.wrap (48 + (Int.tmod (IntKind.i64.wrap ((IntKind.i64.wrap ((IntKind.i64.wrap (IntKind.u8.wrap (x8 - 48))) + 1)) + (Int.tmod (IntKind.i64.wrap ((Int.tmod p2 9) + 9)) 9))) 10)))]))) ++ ((x6.1.drop (Int.toNat (IntKind.i64.wrap ((Int.tmod (IntKind.i64.wrap ((Int.tmod p1 12) + 12)) 12) + 1)))).take (Int.toNat (x6.1.length : Int) - Int.toNat (IntKind.i64.wrap ((Int.tmod (IntKind.i64.wrap ((Int.tmod p1 12) + 12)) 12) + 1)))))) (Vs (((x6.1.drop (Int.toNat (0 : Int))).take (Int.toNat (Int.tmod (IntKind.i64.wrap ((Int.tmod p1 12) + 12)) 12) - Int.toNat (0 : Int))) ++ (ofB ([IntKind.u8.wrap (IntKind.i64.wrap (48 + (Int.tmod (IntKind.i64.wrap ((IntKind.i64.wrap ((IntKind.i64.wrap (IntKind.u8.wrap (x8 - 48))) + 1)) + (Int.tmod (IntKind.i64.wrap ((Int.tmod p2 9) + 9)) 9))) 10)))])))) (Vs ((x6.1.drop (Int.toNat (IntKind.i64.wrap ((Int.tmod (IntKind.i64.wrap ((Int.tmod p1 12) + 12)) 12) + 1)))).take (Int.toNat (x6.1.length : Int) - Int.toNat (IntKind.i64.wrap ((Int.tmod (IntKind.i64.wrap ((Int.tmod p1 12) + 12)) 12) + 1))))) rfl rfl rfl rfl (bin_sadd (guard_l h)) ?_
 replace h := guard_r h
 refine x_pure 1 [(9, Vs ((((x6.1.drop (Int.toNat (0 : Int))).take (Int.toNat (Int.tmod (IntKind.i64.wrap ((Int.tmod p1 12) + 12)) 12) - Int.toNat (0 : Int))) ++ (ofB ([IntKind.u8.wrap (IntKind.i64.wrap (48 + (Int.tmod (IntKind.i64.wrap ((IntKind.i64.wrap ((IntKind.i64.wrap (IntKind.u8.wrap (x8 - 48))) + 1)) + (Int.tmod (IntKind.i64.wrap ((Int.tmod p2 9) + 9)) 9))) 10)))]))) ++ ((x6.1.drop (Int.toNat (IntKind.i64.wrap ((Int.tmod (IntKind.i64.wrap ((Int.tmod p1 12) + 12)) 12) + 1)))).take (Int.toNat (x6.1.length : Int) - Int.toNat (IntKind.i64.wrap ((Int.tmod (IntKind.i64.wrap ((Int.tmod p1 12) + 12)) 12) + 1))))))] _ _ _ (by kernel_rfl) ?_
 refine x_ek ?_
 refine c_norm [(7, Vs x6.1), (9, Vs ((((x6.1.drop (Int.toNat (0 : Int))).take (Int.toNat (Int.tmod (IntKind.i64.wrap ((Int.tmod p1 12) + 12)) 12) - Int.toNat (0 : Int))) ++ (ofB ([IntKind.u8.wrap (IntKind.i64.wrap (48 + (Int.tmod (IntKind.i64.wrap ((IntKind.i64.wrap ((IntKind.i64.wrap (IntKind.u8.wrap (x8 - 48))) + 1)) + (Int.tmod (IntKind.i64.wrap ((Int.tmod p2 9) + 9)) 9))) 10)))]))) ++ ((x6.1.drop (Int.toNat (IntKind.i64.wrap ((Int.tmod (IntKind.i64.wrap ((Int.tmod p1 12) + 12)) 12) + 1)))).take (Int.toNat (x6.1.length : Int) - Int.toNat (IntKind.i64.wrap ((Int.tmod (IntKind.i64.wrap ((Int.tmod p1 12) + 12)) 12) + 1))))))] ⟨rfl, rfl, trivial⟩ (fun J => ?_)
 refine c_seq ?_
 refine c_sp ?_
 refine x_pure 1 [(48, Vs x6.1)] _ _ _ (by kernel_rfl) ?_
 obtain ⟨x12, hx, h⟩ := bind_some h
 have hcall := wagonnumber_Valid_w x6.1 _ w9 hx
 refine x_call 11 #[] #[] [Vs x6.1] _ rfl rfl rfl rfl hcall ?_
 rintro v w13 ⟨rfl, he13⟩
 clear hcall hx
 refine inl1 ?_
 have hst := Stp.ext (ls := [[b0_3], M]) he13
 replace hf3_1 := he13.box hf3_1 nn
 replace hf3_2 := hf3_2.step hst
 replace hms := hms.ev he13
 replace hev := hev.ext he13
 refine x_pure 2 [(50, .bool (x12 != 0)), (51, .bool (x12 != 0))] _ _ _ (by kernel_rfl) ?_
 refine x_split 51 (x12 != 0) rfl (fun hb => ?_) (fun hb => ?_)
 · replace h := ite_t hb h
   refine x_pure 4 [(52, undef), (53, undef), (54, undef), (55, .bool true)] _ _ _ (by kernel_rfl) ?_
   refine x_ek ?_
   refine c_true rfl ?_
   refine c_sp ?_
   refine x_pure 1 [(6, .bool false)] _ _ _ (by kernel_rfl) ?_
   refine x_ek ?_
   refine c_ret ?_
   refine k_then_ret ?_
   refine r_ret (r_vals [.bool false] ⟨rfl, trivial⟩ ?_)
   have hx := some_inj h
   subst hx
   have hmr : MS w13 [M] := hms.pick [some 1] _ rfl
   have hsu : ∀ x ∈ fl [M], x ∈ fl [[b0_3], M] := pick_sub [some 1] _ rfl
   exact ⟨rfl, hev⟩
 replace h := ite_f hb h
 refine x_pure 1 [(52, Vs ((((x6.1.drop (Int.toNat (0 : Int))).take (Int.toNat (Int.tmod (IntKind.i64.wrap ((Int.tmod p1 12) + 12)) 12) - Int.toNat (0 : Int))) ++ (ofB ([IntKind.u8.wrap (IntKind.i64.wrap (48 + (Int.tmod (IntKind.i64.wrap ((IntKind.i64.wrap ((IntKind.i64.wrap (IntKind.u8.wrap (x8 - 48))) + 1)) + (Int.tmod (IntKind.i64.wrap ((Int.tmod p2 9) + 9)) 9))) 10)))]))) ++ ((x6.1.drop (Int.toNat (IntKind.i64.wrap ((Int.tmod (IntKind.i64.wrap ((Int.tmod p1 12) + 12)) 12) + 1)))).take (Int.toNat (x6.1.length : Int) - Int.toNat (IntKind.i64.wrap ((Int.tmod (IntKind.i64.wrap ((Int.tmod p1 12) + 12)) 12) + 1))))))] _ _ _ (by kernel_rfl) ?_
 obtain ⟨x14, hx, h⟩ := bind_some h
 have hcall := wagonnumber_Valid_w ((((x6.1.drop (Int.toNat (0 : Int))).take (Int.toNat (Int.tmod (IntKind.i64.wrap ((Int.tmod p1 12) + 12)) 12) - Int.toNat (0 : Int))) ++ (ofB ([IntKind.u8.wrap (IntKind.i64.wrap (48 + (Int.tmod (IntKind.i64.wrap ((IntKind.i64.wrap ((IntKind.i64.wrap (IntKind.u8.wrap (x8 - 48))) + 1)) + (Int.tmod (IntKind.i64.wrap ((Int.tmod p2 9) + 9)) 9))) 10)))]))) ++ ((x6.1.drop (Int.toNat (IntKind.i64.wrap ((Int.tmod (IntKind.i64.wrap ((Int.tmod p1 12) + 12)) 12) + 1)))).take (Int.toNat (x6.1.length : Int) - Int.toNat (IntKind.i64.wrap ((Int.tmod (IntKind.i64.wrap ((Int.tmod p1 12) + 12)) 12) + 1))))) _ w13 hx
 refine x_call 11 #[] #[] [Vs ((((x6.1.drop (Int.toNat (0 : Int))).take (Int.toNat (Int.tmod (IntKind.i64.wrap ((Int.tmod p1 12) + 12)) 12) - Int.toNat (0 : Int))) ++ (ofB ([IntKind.u8.wrap (IntKind.i64.wrap (48 + (Int.tmod (IntKind.i64.wrap ((IntKind.i64.wrap ((IntKind.i64.wrap (IntKind.u8.wrap (x8 - 48))) + 1)) + (Int.tmod (IntKind.i64.wrap ((Int.tmod p2 9) + 9)) 9))) 10)))]))) ++ ((x6.1.drop (Int.toNat (IntKind.i64.wrap ((Int.tmod (IntKind.i64.wrap ((Int.tmod p1 12) + 12)) 12) + 1)))).take (Int.toNat (x6.1.length : Int) - Int.toNat (IntKind.i64.wrap ((Int.tmod (IntKind.i64.wrap ((Int.tmod p1 12) + 12)) 12) + 1)))))] _ rfl rfl rfl rfl hcall ?_
 rintro v w15 ⟨rfl, he15⟩
 clear hcall hx
 refine inl1 ?_
 have hst := Stp.ext (ls := [[b0_3], M]) he15
 replace hf3_1 := he15.box hf3_1 nn
 replace hf3_2 := hf3_2.step hst
 replace hms := hms.ev he15
 replace hev := hev.ext he15
 refine x_pure 2 [(54, .bool (x14 != 9)), (55, .bool (x14 != 9))] _ _ _ (by kernel_rfl) ?_
 refine x_ek ?_
 refine c_cond (x14 != 9) rfl (fun hb => ?_) (fun hb => ?_)
 · replace h := ite_t hb h
   refine c_sp ?_
   refine x_pure 1 [(6, .bool false)] _ _ _ (by kernel_rfl) ?_
   refine x_ek ?_
   refine c_ret ?_
   refine k_then_ret ?_
   refine r_ret (r_vals [.bool false] ⟨rfl, trivial⟩ ?_)
   have hx := some_inj h
   subst hx
   have hmr : MS w15 [M] := hms.pick [some 1] _ rfl
   have hsu : ∀ x ∈ fl [M], x ∈ fl [[b0_3], M] := pick_sub [some 1] _ rfl
   exact ⟨rfl, hev⟩
 replace h := ite_f hb h
 refine c_skip ?_
 refine k_then ?_
 refine c_sp ?_
 refine x_pure 1 [(57, Vs ((((x6.1.drop (Int.toNat (0 : Int))).take (Int.toNat (Int.tmod (IntKind.i64.wrap ((Int.tmod p1 12) + 12)) 12) - Int.toNat (0 : Int))) ++ (ofB ([IntKind.u8.wrap (IntKind.i64.wrap (48 + (Int.tmod (IntKind.i64.wrap ((IntKind.i64.wrap ((IntKind.i64.wrap (IntKind.u8.wrap (x8 - 48))) + 1)) + (Int.tmod (IntKind.i64.wrap ((Int.tmod p2 9) + 9)) 9))) 10)))]))) ++ ((x6.1.drop (Int.toNat (IntKind.i64.wrap ((Int.tmod (IntKind.i64.wrap ((Int.tmod p1 12) + 12)) 12) + 1)))).take (Int.toNat (x6.1.length : Int) - Int.toNat (IntKind.i64.wrap ((Int.tmod (IntKind.i64.wrap ((Int.tmod p1 12) + 12)) 12) + 1))))))] _ _ _ (by kernel_rfl) ?_
 obtain ⟨x16, hx, h⟩ := bind_some h
 have hpk : MS w15 ([] ++ [[b0_3], M]) := hms.pick [some 0, some 1] _ rfl
 have hsb0 : ∀ x ∈ fl ([] ++ [[b0_3], M]), x ∈ fl [[b0_3], M] := pick_sub [some 0, some 1] _ rfl
 have hsb : ∀ x ∈ fl ([] ++ [(fl [[b0_3], M])]), x ∈ fl [[b0_3], M] := fun x hx => hsb0 x (fl_unfold x hx)
 have hcall := wagonnumber_Repairs_w ((((x6.1.drop (Int.toNat (0 : Int))).take (Int.toNat (Int.tmod (IntKind.i64.wrap ((Int.tmod p1 12) + 12)) 12) - Int.toNat (0 : Int))) ++ (ofB ([IntKind.u8.wrap (IntKind.i64.wrap (48 + (Int.tmod (IntKind.i64.wrap ((IntKind.i64.wrap ((IntKind.i64.wrap (IntKind.u8.wrap (x8 - 48))) + 1)) + (Int.tmod (IntKind.i64.wrap ((Int.tmod p2 9) + 9)) 9))) 10)))]))) ++ ((x6.1.drop (Int.toNat (IntKind.i64.wrap ((Int.tmod (IntKind.i64.wrap ((Int.tmod p1 12) + 12)) 12) + 1)))).take (Int.toNat (x6.1.length : Int) - Int.toNat (IntKind.i64.wrap ((Int.tmod (IntKind.i64.wrap ((Int.tmod p1 12) + 12)) 12) + 1))))) _ w15 (fl [[b0_3], M]) (MS.fold (P := []) hpk)  hx
 refine x_call 12 #[] #[] [Vs ((((x6.1.drop (Int.toNat (0 : Int))).take (Int.toNat (Int.tmod (IntKind.i64.wrap ((Int.tmod p1 12) + 12)) 12) - Int.toNat (0 : Int))) ++ (ofB ([IntKind.u8.wrap (IntKind.i64.wrap (48 + (Int.tmod (IntKind.i64.wrap ((IntKind.i64.wrap ((IntKind.i64.wrap (IntKind.u8.wrap (x8 - 48))) + 1)) + (Int.tmod (IntKind.i64.wrap ((Int.tmod p2 9) + 9)) 9))) 10)))]))) ++ ((x6.1.drop (Int.toNat (IntKind.i64.wrap ((Int.tmod (IntKind.i64.wrap ((Int.tmod p1 12) + 12)) 12) + 1)))).take (Int.toNat (x6.1.length : Int) - Int.toNat (IntKind.i64.wrap ((Int.tmod (IntKind.i64.wrap ((Int.tmod p1 12) + 12)) 12) + 1)))))] _ rfl rfl rfl rfl hcall ?_
 rintro v w17 ⟨a0_17, c0_17, rfl, he17, hmn17, hfn17, hf17_1⟩
 clear hcall hx
 refine inl1 ?_
 have hpk2 : MS w15 ([] ++ [[b0_3], M]) := hms.pick [some 0, some 1] _ rfl
 have hsb2 : ∀ x ∈ fl ([] ++ [[b0_3], M]), x ∈ fl [[b0_3], M] := pick_sub [some 0, some 1] _ rfl
 have hst0 := Stp.call (LS := [[b0_3], M]) (res := [blk a0_17]) (par := []) (R := [[b0_3], M]) he17 (fun b hb => hsb2 b (fl_left' (P := []) b hb)) hfn17 (NP.init _ _) (fun x hx => hsb2 x (fl_right' (P := []) x hx))
 have hsn : ∀ x ∈ fl [blk a0_17, [b0_3], M], x ∈ fl ([blk a0_17] ++ ([] ++ [[b0_3], M])) := pick_sub [some 0, some 1, some 2] _ rfl
 have hst := hst0.res hsn
 replace hf3_1 := he17.box hf3_1 ((MS.outs (P := []) hpk2 0 rfl) _ mem1)
 replace hf3_2 := hf3_2.step hst
 replace hms : MS w17 [blk a0_17, [b0_3], M] := (MS.call (P := []) (R := [[b0_3], M]) (res := [blk a0_17]) (par := []) hpk2 he17 hmn17 hfn17 (NP.init _ _)).pick [some 0, some 1, some 2] _ rfl
 have hfr2 : FR w.heap.size [blk a0_17, [b0_3]] := (FR.cons (fun b hb => Nat.le_trans hev.size (hfn17.at 0 rfl b hb)) (FR.cons (hfr.at 0 rfl) (FR.nil _)))
 replace hev := hev.ext he17
 replace hfr := hfr2
 clear hfr2
 replace hf17_1 := OwnS.plain (M' := fl [blk a0_17, [b0_3], M]) plain_str hf17_1
 clear hpk hsb hsb0 hpk2 hsb2 hst0 hsn hst
 have hpk : MS w17 [[b0_3], M] := hms.pick [some 1, some 2] _ rfl
 have hsu : ∀ x ∈ fl [[b0_3], M], x ∈ fl [blk a0_17, [b0_3], M] := pick_sub [some 1, some 2] _ rfl
 replace hf3_2 := hf3_2.sub hsu
 replace hf17_1 := hf17_1.ro hsu (pick_out hms 0 rfl [some 1, some 2] [[b0_3], M] rfl rfl)
 replace hms := hpk
 replace hfr : FR w.heap.size [[b0_3]] := hfr.pick [some 1] _ rfl
 clear hpk hsu
 refine x_pure 5 [(56, .tuple #[.slice a0_17 (x16.1).length c0_17, Vi x16.2]), (59, .slice a0_17 (x16.1).length c0_17), (60, Vi x16.2), (10, .slice a0_17 (x16.1).length c0_17), (11, Vi x16.2)] _ _ _ (by kernel_rfl) ?_
 refine x_ek ?_
 refine c_norm [(7, Vs x6.1), (10, .slice a0_17 (x16.1).length c0_17), (11, Vi x16.2)] ⟨rfl, rfl, rfl, trivial⟩ (fun J => ?_)
 refine c_sp ?_
 refine x_pure 1 [(12, .bool false)] _ _ _ (by kernel_rfl) ?_
 refine x_ek ?_
 refine c_seq ?_
 refine c_sp ?_
 refine x_pure 1 [(61, .slice a0_17 (x16.1).length c0_17)] _ _ _ (by kernel_rfl) ?_
 refine x_len (vs := [.slice a0_17 (x16.1).length c0_17]) (Vi ((x16.1).length : Int)) rfl rfl rfl (reads_len tsl29 _ _ _ _ _) ?_
 refine x_pure 1 [(63, Vi 0)] _ _ _ (by kernel_rfl) ?_
 refine x_ek ?_
 refine c_block ?_
 have hpk : MS w17 [M] := hms.pick [some 1] _ rfl
 have hsu : ∀ x ∈ fl [M], x ∈ fl [[b0_3], M] := pick_sub [some 1] _ rfl
 replace hf17_1 := hf17_1.sub hsu
 replace hms := hpk
 replace hfr : FR w.heap.size [] := hfr.pick [] _ rfl
 clear hpk hsu
 obtain ⟨d20, hd20, h20⟩ := bind_some h
 obtain ⟨m20, hd20⟩ := loop_some hd20
 refine c_loop (loop_rule hmx (σ := Nat × Bool × Int) (fun s => match s with | (_, found_s12_l20, t63__s63_l20) => [(7, Vs x6.1), (11, Vi x16.2), (12, .bool found_s12_l20), (61, .slice a0_17 (x16.1).length c0_17), (62, Vi ((x16.1).length : Int)), (63, Vi t63__s63_l20)]) (fun s w' => match s with | (m, found_s12_l20, t63__s63_l20) => loopN (law02_WagonnumberOneDigit_L20 x6 x16) m (found_s12_l20, t63__s63_l20) = some d20 ∧ Ev [] w w' ∧ MS w' [M] ∧ FR w.heap.size [] ∧ SlR eStr w' (fl [M]) a0_17 c0_17 x16.1) (fun s => s.1) (m20, false, 0) ⟨rfl, rfl, rfl, rfl, rfl, rfl, trivial⟩ ⟨hd20, hev, hms, hfr, hf17_1⟩ ?_)
 rintro ⟨m20, found_s12_l20, t63__s63_l20⟩ J wl20 ⟨hn20, hev, hms, hfr, hf17_1⟩
 rcases m20 with _ | m20
 · exact (loopN_zero hn20).elim
 obtain ⟨t20, h, hn20⟩ := bind_some hn20
 refine c_sp ?_
 refine x_pure 1 [(64, .bool (decide (t63__s63_l20 < ((x16.1).length : Int))))] _ _ _ (by kernel_rfl) ?_
 refine x_ek ?_
 refine c_norm [(7, Vs x6.1), (11, Vi x16.2), (12, .bool found_s12_l20), (61, .slice a0_17 (x16.1).length c0_17), (62, Vi ((x16.1).length : Int)), (63, Vi t63__s63_l20), (64, .bool (decide (t63__s63_l20 < ((x16.1).length : Int))))] ⟨rfl, rfl, rfl, rfl, rfl, rfl, rfl, trivial⟩ (fun J => ?_)
 refine c_seq ?_
 refine c_cond (decide (t63__s63_l20 < ((x16.1).length : Int))) rfl (fun hb => ?_) (fun hb => ?_)
 · replace h := ite_t hb h
   refine c_skip ?_
   refine k_then ?_
   refine c_seq ?_
   refine c_block ?_
   refine c_sp ?_
   obtain ⟨x22, hx22, h⟩ := bind_some h
   obtain ⟨ad22, cs22, hr22, hc22, hR⟩ := reads_index (Mo := []) tsl29 hf17_1 hx22
   obtain rfl := hR
   refine x_indexAddr (xv := .slice a0_17 (x16.1).length c0_17) (yv := Vi t63__s63_l20) (.pointer (some ad22)) rfl rfl rfl rfl hr22 ?_
   refine x_load (xv := .pointer (some ad22)) (Vs x22) rfl rfl rfl (reads_cell0 tcell9 hc22 (fun _ h => by cases h)) ?_
   refine x_pure 1 [(14, Vs x22)] _ _ _ (by kernel_rfl) ?_
   refine x_ek ?_
   refine c_plain ?_
   refine x_pure 2 [(67, .bool found_s12_l20), (68, .bool found_s12_l20)] _ _ _ (by kernel_rfl) ?_
   refine x_split 68 found_s12_l20 rfl (fun hb => ?_) (fun hb => ?_)
   · replace h := ite_t hb h
     refine x_pure 5 [(69, undef), (70, undef), (71, undef), (72, .bool true), (12, .bool true)] _ _ _ (by kernel_rfl) ?_
     refine x_end rfl ?_
     refine k_block ?_
     refine k_then ?_
     refine c_plain ?_
     refine x_pure 2 [(73, Vi (IntKind.i64.wrap (t63__s63_l20 + 1))), (63, Vi (IntKind.i64.wrap (t63__s63_l20 + 1)))] _ _ _ (by kernel_rfl) ?_
     refine x_end rfl ?_
     have hx := some_inj h
     subst hx
     exact k_then ⟨(m20, true, IntKind.i64.wrap (t63__s63_l20 + 1)), ⟨rfl, rfl, rfl, rfl, rfl, rfl, trivial⟩, ⟨hn20, hev, hms, hfr, hf17_1⟩, Nat.lt_succ_self _⟩
   replace h := ite_f hb h
   refine x_pure 2 [(69, Vs x22), (70, Vs x6.1)] _ _ _ (by kernel_rfl) ?_
   refine x_binop (.bool (x22 == x6.1)) (Vs x22) (Vs x6.1) rfl rfl rfl rfl (bin_seq) ?_
   refine x_pure 2 [(72, .bool (x22 == x6.1)), (12, .bool (x22 == x6.1))] _ _ _ (by kernel_rfl) ?_
   refine x_end rfl ?_
   refine k_block ?_
   refine k_then ?_
   refine c_plain ?_
   refine x_pure 2 [(73, Vi (IntKind.i64.wrap (t63__s63_l20 + 1))), (63, Vi (IntKind.i64.wrap (t63__s63_l20 + 1)))] _ _ _ (by kernel_rfl) ?_
   refine x_end rfl ?_
   have hx := some_inj h
   subst hx
   exact k_then ⟨(m20, x22 == x6.1, IntKind.i64.wrap (t63__s63_l20 + 1)), ⟨rfl, rfl, rfl, rfl, rfl, rfl, trivial⟩, ⟨hn20, hev, hms, hfr, hf17_1⟩, Nat.lt_succ_self _⟩
 replace h := ite_f hb h
 refine c_exit ?_
 refine k_then_exit ?_
 have hx := some_inj h
 subst hx
 have hy := some_inj hn20
 subst hy
 replace h := h20
 refine k_then_exit ?_
 refine k_block_in ?_
 refine k_then ?_
 refine c_norm [(11, Vi x16.2), (12, .bool found_s12_l20)] ⟨rfl, rfl, trivial⟩ (fun J => ?_)
 refine c_sp ?_
 refine x_pure 3 [(74, Vi x16.2), (75, .bool (x16.2 == 0)), (76, .bool (x16.2 == 0))] _ _ _ (by kernel_rfl) ?_
 refine x_split 76 (x16.2 == 0) rfl (fun hb => ?_) (fun hb => ?_)
 · replace h := ite_t hb h
   refine x_pure 3 [(77, .bool found_s12_l20), (78, .bool found_s12_l20), (79, .bool found_s12_l20)] _ _ _ (by kernel_rfl) ?_
   refine x_split 79 found_s12_l20 rfl (fun hb => ?_) (fun hb => ?_)
   · replace h := ite_t hb h
     obtain ⟨x24, hx, h⟩ := bind_some h
     have hcall := law02_sane_w _ wl20 hx
     refine x_call 13 #[] #[] [] _ rfl rfl rfl rfl hcall ?_
     rintro v w25 ⟨rfl, he25⟩
     clear hcall hx
     refine inl1 ?_
     replace hms := hms.ev he25
     replace hev := hev.ext he25
     refine x_pure 2 [(81, .bool x24), (6, .bool x24)] _ _ _ (by kernel_rfl) ?_
     refine x_ek ?_
     refine c_ret ?_
     refine r_ret (r_vals [.bool x24] ⟨rfl, trivial⟩ ?_)
     have hx := some_inj h
     subst hx
     have hmr : MS w25 [M] := hms.pick [some 0] _ rfl
     have hsu : ∀ x ∈ fl [M], x ∈ fl [M] := pick_sub [some 0] _ rfl
     exact ⟨rfl, hev⟩
   replace h := ite_f hb h
   refine x_pure 3 [(80, undef), (81, .bool false), (6, .bool false)] _ _ _ (by kernel_rfl) ?_
   refine x_ek ?_
   refine c_ret ?_
   refine r_ret (r_vals [.bool false] ⟨rfl, trivial⟩ ?_)
   have hx := some_inj h
   subst hx
   have hmr : MS wl20 [M] := hms.pick [some 0] _ rfl
   have hsu : ∀ x ∈ fl [M], x ∈ fl [M] := pick_sub [some 0] _ rfl
   exact ⟨rfl, hev⟩
 replace h := ite_f hb h
 refine x_pure 6 [(77, undef), (78, .bool false), (79, .bool false), (80, undef), (81, .bool false), (6, .bool false)] _ _ _ (by kernel_rfl) ?_
 refine x_ek ?_
 refine c_ret ?_
 refine r_ret (r_vals [.bool false] ⟨rfl, trivial⟩ ?_)
 have hx := some_inj h
 subst hx
 have hmr : MS wl20 [M] := hms.pick [some 0] _ rfl
 have hsu : ∀ x ∈ fl [M], x ∈ fl [M] := pick_sub [some 0] _ rfl
 exact ⟨rfl, hev⟩
end Go.Proofs.Yteimkmjnjnaifaa
