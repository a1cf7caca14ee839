/- Walks, printed by program: each function returns what the partial function of the same name returns. Conditions: those of each theorem. -/
import Derived.Test.YteimkmjnjnaifaaGT
import Derived.Test.YteimkmjnjnaifaaGgen
import Derived.Test.YteimkmjnjnaifaaGlaw02sane
import Derived.Test.YteimkmjnjnaifaaGwagonnumber
set_option linter.unusedVariables false
set_option linter.unusedSimpArgs false
set_option maxRecDepth 4000
namespace Go.Proofs.Yteimkmjnjnaifaa
open Go Go.V Go.Proofs
def law02_WagonnumberExchange_J12 (p1 : Int) (x6 : (List UInt8) × Int) (x8 : Int) (x9 : Int) (special_s7_j12 : Bool) : Option Bool :=
((wagonnumber_Valid x6.1).bind fun x21 =>
(if (x21 == 0) = true then
((wagonnumber_Valid ((((x6.1.drop (Int.toNat (0 : Int))).take (Int.toNat (Int.tmod (IntKind.i64.wrap ((Int.tmod p1 11) + 11)) 11) - Int.toNat (0 : Int))) ++ (ofB ([x8, x9]))) ++ ((x6.1.drop (Int.toNat (IntKind.i64.wrap ((Int.tmod (IntKind.i64.wrap ((Int.tmod p1 11) + 11)) 11) + 2)))).take (Int.toNat (x6.1.length : Int) - Int.toNat (IntKind.i64.wrap ((Int.tmod (IntKind.i64.wrap ((Int.tmod p1 11) + 11)) 11) + 2)))))).bind fun x23 =>
(if ((x23 == 0) == special_s7_j12) = true then
((law02_sane).bind fun x25 =>
some x25)
else
some false))
else
some false))

def law02_WagonnumberExchange (p0 : List Int) (p1 : Int) : Option Bool :=
((gen_New p0).bind fun x2 =>
((gen_Maker_Number x2.1 x2.2 2).bind fun x6 =>
(if 0 ≤ ((0 : Int) : Int) ∧ ((0 : Int) : Int) ≤ (Int.tmod (IntKind.i64.wrap ((Int.tmod p1 11) + 11)) 11 : Int) ∧ (Int.tmod (IntKind.i64.wrap ((Int.tmod p1 11) + 11)) 11 : Int) ≤ (x6.1.length : Int) then
((sAt x6.1 (IntKind.i64.wrap ((Int.tmod (IntKind.i64.wrap ((Int.tmod p1 11) + 11)) 11) + 1))).bind fun x8 =>
((sAt x6.1 (Int.tmod (IntKind.i64.wrap ((Int.tmod p1 11) + 11)) 11)).bind fun x9 =>
(if 0 ≤ (IntKind.i64.wrap ((Int.tmod (IntKind.i64.wrap ((Int.tmod p1 11) + 11)) 11) + 2) : Int) ∧ (IntKind.i64.wrap ((Int.tmod (IntKind.i64.wrap ((Int.tmod p1 11) + 11)) 11) + 2) : Int) ≤ ((x6.1.length : Int) : Int) ∧ ((x6.1.length : Int) : Int) ≤ (x6.1.length : Int) then
(if ((x6.1.drop (Int.toNat (0 : Int))).take (Int.toNat (Int.tmod (IntKind.i64.wrap ((Int.tmod p1 11) + 11)) 11) - Int.toNat (0 : Int))).length + (ofB ([x8, x9])).length ≤ 4294967296 then
(if (((x6.1.drop (Int.toNat (0 : Int))).take (Int.toNat (Int.tmod (IntKind.i64.wrap ((Int.tmod p1 11) + 11)) 11) - Int.toNat (0 : Int))) ++ (ofB ([x8, x9]))).length + ((x6.1.drop (Int.toNat (IntKind.i64.wrap ((Int.tmod (IntKind.i64.wrap ((Int.tmod p1 11) + 11)) 11) + 2)))).take (Int.toNat (x6.1.length : Int) - Int.toNat (IntKind.i64.wrap ((Int.tmod (IntKind.i64.wrap ((Int.tmod p1 11) + 11)) 11) + 2)))).length ≤ 4294967296 then
((sAt x6.1 (Int.tmod (IntKind.i64.wrap ((Int.tmod p1 11) + 11)) 11)).bind fun x13 =>
((sAt x6.1 (IntKind.i64.wrap ((Int.tmod (IntKind.i64.wrap ((Int.tmod p1 11) + 11)) 11) + 1))).bind fun x14 =>
(if (x13 == x14) = true then
law02_WagonnumberExchange_J12 p1 x6 x8 x9 true
else
((sAt x6.1 (Int.tmod (IntKind.i64.wrap ((Int.tmod p1 11) + 11)) 11)).bind fun x15 =>
(if (x15 == 48) = true then
((sAt x6.1 (IntKind.i64.wrap ((Int.tmod (IntKind.i64.wrap ((Int.tmod p1 11) + 11)) 11) + 1))).bind fun x16 =>
(if (x16 == 57) = true then
law02_WagonnumberExchange_J12 p1 x6 x8 x9 true
else
((sAt x6.1 (Int.tmod (IntKind.i64.wrap ((Int.tmod p1 11) + 11)) 11)).bind fun x17 =>
(if (x17 == 57) = true then
((sAt x6.1 (IntKind.i64.wrap ((Int.tmod (IntKind.i64.wrap ((Int.tmod p1 11) + 11)) 11) + 1))).bind fun x18 =>
law02_WagonnumberExchange_J12 p1 x6 x8 x9 (x18 == 48))
else
law02_WagonnumberExchange_J12 p1 x6 x8 x9 false))))
else
((sAt x6.1 (Int.tmod (IntKind.i64.wrap ((Int.tmod p1 11) + 11)) 11)).bind fun x19 =>
(if (x19 == 57) = true then
((sAt x6.1 (IntKind.i64.wrap ((Int.tmod (IntKind.i64.wrap ((Int.tmod p1 11) + 11)) 11) + 1))).bind fun x20 =>
law02_WagonnumberExchange_J12 p1 x6 x8 x9 (x20 == 48))
else
law02_WagonnumberExchange_J12 p1 x6 x8 x9 false)))))))
else none)
else none)
else none)))
else none)))

theorem law02_WagonnumberExchange_w (a_p0 : Option Addr) (c_p0 : Nat) (p0 : List Int) (p1 : Int) (r : Bool) (w : World) (M : List Nat) (hms : MS w [M]) (hs_p0 : SlR (eInt .i64) w (fl [M]) a_p0 c_p0 p0) (h : law02_WagonnumberExchange p0 p1 = some r) : CallVC Try.prog 5 [.slice a_p0 (p0).length c_p0, Vi p1] w fun v w' => v = .bool r ∧ Ev [] w w' := by
 refine calls_vc hmx Try.func5 (by kernel_rfl) rfl (rs := [.tmp 4]) rfl (by kernel_rfl) (args := [.slice a_p0 (p0).length c_p0, Vi p1]) rfl ?_
 have hev : Ev [] w w := Ev.refl _ _
 have hfr : FR w.heap.size [] := FR.nil _
 refine c_sp ?_
 refine x_pure 1 [(4, .bool false)] _ _ _ (by kernel_rfl) ?_
 refine x_ek ?_
 refine c_sp ?_
 refine x_pure 1 [(8, .slice a_p0 (p0).length c_p0)] _ _ _ (by kernel_rfl) ?_
 obtain ⟨x2, hx, h⟩ := bind_some h
 have hpk : MS w ([] ++ [M]) := hms.pick [some 0] _ rfl
 have hsb0 : ∀ x ∈ fl ([] ++ [M]), x ∈ fl [M] := pick_sub [some 0] _ rfl
 have hsb : ∀ x ∈ fl ([] ++ [(fl [M])]), x ∈ fl [M] := fun x hx => hsb0 x (fl_unfold x hx)
 have hcall := gen_New_w a_p0 c_p0 p0 _ w (fl [M]) (MS.fold (P := []) hpk) (hs_p0.sub hsb) hx
 refine x_call 9 #[] #[] [.slice a_p0 (p0).length c_p0] _ rfl rfl rfl rfl hcall ?_
 rintro v w3 ⟨b0_3, a1_3, c1_3, rfl, he3, hmn3, hfn3, hf3_1, hf3_2⟩
 clear hcall hx
 refine inl1 ?_
 have hpk2 : MS w ([] ++ [M]) := hms.pick [some 0] _ rfl
 have hsb2 : ∀ x ∈ fl ([] ++ [M]), x ∈ fl [M] := pick_sub [some 0] _ rfl
 have hst0 := Stp.call (LS := [M]) (res := [[b0_3]]) (par := []) (R := [M]) he3 (fun b hb => hsb2 b (fl_left' (P := []) b hb)) hfn3 (NP.init _ _) (fun x hx => hsb2 x (fl_right' (P := []) x hx))
 have hsn : ∀ x ∈ fl [[b0_3], M], x ∈ fl ([[b0_3]] ++ ([] ++ [M])) := pick_sub [some 0, some 1] _ rfl
 have hst := hst0.res hsn
 replace hs_p0 := hs_p0.step hst
 replace hms : MS w3 [[b0_3], M] := (MS.call (P := []) (R := [M]) (res := [[b0_3]]) (par := []) hpk2 he3 hmn3 hfn3 (NP.init _ _)).pick [some 0, some 1] _ rfl
 have hfr2 : FR w.heap.size [[b0_3]] := (FR.cons (fun b hb => Nat.le_trans hev.size (hfn3.at 0 rfl b hb)) (FR.nil _))
 replace hev := hev.ext he3
 replace hfr := hfr2
 clear hfr2
 have hsp : ∀ x ∈ fl [[b0_3], M], x ∈ fl ([[b0_3]] ++ ([] ++ [(fl [M])])) := fun x hx => fl_tot (res := [[b0_3]]) (par := []) (R := [M]) x (hsn x hx)
 replace hf3_2 := hf3_2.sub hsp
 clear hpk hsb hsb0 hpk2 hsb2 hst0 hsn hst
 obtain ⟨x6, hx, h⟩ := bind_some h
 have hpk : MS w3 ([[b0_3]] ++ [M]) := hms.pick [some 0, some 1] _ rfl
 have hsb0 : ∀ x ∈ fl ([[b0_3]] ++ [M]), x ∈ fl [[b0_3], M] := pick_sub [some 0, some 1] _ rfl
 have hsb : ∀ x ∈ fl ([[b0_3]] ++ [(fl [M])]), x ∈ fl [[b0_3], M] := fun x hx => hsb0 x (fl_unfold x hx)
 have hcall := gen_Maker_Number_w b0_3 a1_3 c1_3 x2.1 x2.2 2 _ w3 (fl [M]) (hpk.fold (P := [[b0_3]])) (hf3_2.sub hsb) hf3_1 hx
 refine x_call 10 #[] #[] [Vp b0_3 0, Vi 2] _ rfl rfl rfl rfl hcall ?_
 rintro v w7 ⟨rfl, he7, hp7_0⟩
 clear hcall hx
 refine inl1 ?_
 have hpk2 : MS w3 ([[b0_3]] ++ [M]) := hms.pick [some 0, some 1] _ rfl
 have hsb2 : ∀ x ∈ fl ([[b0_3]] ++ [M]), x ∈ fl [[b0_3], M] := pick_sub [some 0, some 1] _ rfl
 have hst0 := Stp.call (LS := [[b0_3], M]) (res := []) (par := [[b0_3]]) (R := [M]) he7 (fun b hb => hsb2 b (fl_left' (P := [[b0_3]]) b hb)) (FR.nil _) (NP.init _ _) (fun x hx => hsb2 x (fl_right' (P := [[b0_3]]) x hx))
 have hsn : ∀ x ∈ fl [[b0_3], M], x ∈ fl ([] ++ ([[b0_3]] ++ [M])) := pick_sub [some 0, some 1] _ rfl
 have hst := hst0.res hsn
 replace hs_p0 := hs_p0.step hst
 replace hf3_2 := hf3_2.step hst
 replace hms := hms.ev he7
 have hPf : ∀ b ∈ fl [[b0_3]], w.heap.size ≤ b := FR.mem (ls := [[b0_3]]) (hfr.pick [some 0] _ rfl)
 replace hev := hev.then he7 (fun b hb => .inr (hPf b hb))
 replace hf3_1 := hp7_0
 clear hpk hsb hsb0 hpk2 hsb2 hst0 hsn hst
 refine x_pure 1 [(5, Vs x6.1)] _ _ _ (by kernel_rfl) ?_
 refine x_ek ?_
 refine c_sp ?_
 refine x_pure 5 [(11, Vi p1), (12, Vi (Int.tmod p1 11)), (13, Vi (IntKind.i64.wrap ((Int.tmod p1 11) + 11))), (14, Vi (Int.tmod (IntKind.i64.wrap ((Int.tmod p1 11) + 11)) 11)), (1, Vi (Int.tmod (IntKind.i64.wrap ((Int.tmod p1 11) + 11)) 11))] _ _ _ (by kernel_rfl) ?_
 refine x_ek ?_
 refine c_seq ?_
 refine c_drawn [] [(0, false), (1, false), (2, false), (3, false), (4, false), (5, false), (6, false), (7, false), (8, false), (9, false), (13, false), (14, false), (15, false), (16, false), (10, false), (11, false), (12, false), (17, false), (18, false)] _ (by kernel_rfl) rfl ?_
 have hst := Stp.ext (ls := [[b0_3], M]) (Ev.drew w7)
 replace hf3_1 := (Ev.drew w7).box hf3_1 nn
 replace hf3_2 := hf3_2.step hst
 replace hms := hms.ev (Ev.drew w7)
 replace hev := hev.ext (Ev.drew w7)
 refine x_pure 2 [(15, Vs x6.1), (16, Vi (Int.tmod (IntKind.i64.wrap ((Int.tmod p1 11) + 11)) 11))] _ _ _ (by kernel_rfl) ?_
 have hg := guard_l h
 replace h := guard_r h
 refine x_slice (xv := Vs x6.1) (lv := none) (hv := (some (Vi (Int.tmod (IntKind.i64.wrap ((Int.tmod p1 11) + 11)) 11)))) (mv := none) (Vs ((x6.1.drop (Int.toNat (0 : Int))).take (Int.toNat (Int.tmod (IntKind.i64.wrap ((Int.tmod p1 11) + 11)) 11) - Int.toNat (0 : Int)))) rfl rfl rfl rfl rfl rfl (reads_scut tstr9 _ none (some (Int.tmod (IntKind.i64.wrap ((Int.tmod p1 11) + 11)) 11)) hg) ?_
 refine x_pure 3 [(18, Vs x6.1), (19, Vi (Int.tmod (IntKind.i64.wrap ((Int.tmod p1 11) + 11)) 11)), (20, Vi (IntKind.i64.wrap ((Int.tmod (IntKind.i64.wrap ((Int.tmod p1 11) + 11)) 11) + 1)))] _ _ _ (by kernel_rfl) ?_
 obtain ⟨x8, hx8, h⟩ := bind_some h
 refine x_index (xv := Vs x6.1) (yv := Vi (IntKind.i64.wrap ((Int.tmod (IntKind.i64.wrap ((Int.tmod p1 11) + 11)) 11) + 1))) (.int .u8 x8) rfl rfl rfl rfl (reads_sindex tstr9 hx8) ?_
 refine x_pure 2 [(22, Vs x6.1), (23, Vi (Int.tmod (IntKind.i64.wrap ((Int.tmod p1 11) + 11)) 11))] _ _ _ (by kernel_rfl) ?_
 obtain ⟨x9, hx9, h⟩ := bind_some h
 refine x_index (xv := Vs x6.1) (yv := Vi (Int.tmod (IntKind.i64.wrap ((Int.tmod p1 11) + 11)) 11)) (.int .u8 x9) rfl rfl rfl rfl (reads_sindex tstr9 hx9) ?_
 refine x_pure 3 [(28, Vs x6.1), (29, Vi (Int.tmod (IntKind.i64.wrap ((Int.tmod p1 11) + 11)) 11)), (30, Vi (IntKind.i64.wrap ((Int.tmod (IntKind.i64.wrap ((Int.tmod p1 11) + 11)) 11) + 2)))] _ _ _ (by kernel_rfl) ?_
 have hg := guard_l h
 replace h := guard_r h
 refine x_slice (xv := Vs x6.1) (lv := (some (Vi (IntKind.i64.wrap ((Int.tmod (IntKind.i64.wrap ((Int.tmod p1 11) + 11)) 11) + 2))))) (hv := none) (mv := none) (Vs ((x6.1.drop (Int.toNat (IntKind.i64.wrap ((Int.tmod (IntKind.i64.wrap ((Int.tmod p1 11) + 11)) 11) + 2)))).take (Int.toNat (x6.1.length : Int) - Int.toNat (IntKind.i64.wrap ((Int.tmod (IntKind.i64.wrap ((Int.tmod p1 11) + 11)) 11) + 2))))) rfl rfl rfl rfl rfl rfl (reads_scut tstr9 _ (some (IntKind.i64.wrap ((Int.tmod (IntKind.i64.wrap ((Int.tmod p1 11) + 11)) 11) + 2))) none hg) ?_
 refine x_buildSlice (vs := [(0, .int .u8 x8), (1, .int .u8 x9)]) #[.int .u8 x8, .int .u8 x9] 5 rfl rfl rfl (by kernel_rfl) (fun b10 w10 hq10 hb10 he10 hz10 => ?_)
 refine ⟨.inr he10, ?_⟩
 have hms0 := hms
 have hst := Stp.ext (ls := [[b0_3], M]) he10
 replace hf3_1 := he10.box hf3_1 nn
 replace hf3_2 := hf3_2.step hst
 replace hms := hms.ev he10
 replace hev := hev.ext he10
 have hs10 : SlR (eInt .u8) w10 (fl [[b0_3], M]) (Ad b10 0) 2 ([x8, x9]) := ro_of_box hms0 hq10 hb10 rfl rfl (cells_at (cs := [.int .u8 x8, .int .u8 x9]) (CellsOf.cons (c := [.int .u8 x8]) rfl (CellsOf.cons (c := [.int .u8 x9]) rfl CellsOf.nil)))
 clear hb10 hms0
 refine x_convert (xv := .slice (Ad b10 0) ([x8, x9]).length 2) (Vs (ofB ([x8, x9]))) _ rfl rfl rfl (run_ofB tuns26 tint5 tstr9 hs10) ?_
 refine ⟨.inr (Ev.refl _ _), ?_⟩
 refine x_binop (Vs (((x6.1.drop (Int.toNat (0 : Int))).take (Int.toNat (Int.tmod (IntKind.i64.wrap ((Int.tmod p1 11) + 11)) 11) - Int.toNat (0 : Int))) ++ (ofB ([x8, x9])))) (Vs ((x6.1.drop (Int.toNat (0 : Int))).take (Int.toNat (Int.tmod (IntKind.i64.wrap ((Int.tmod p1 11) + 11)) 11) - Int.toNat (0 : Int)))) (Vs (ofB ([x8, x9]))) rfl rfl rfl rfl (bin_sadd (guard_l h)) ?_
 replace h := guard_r h
 refine x_binop (Vs ((((x6.1.drop (Int.toNat (0 : Int))).take (Int.toNat (Int.tmod (IntKind.i64.wrap ((Int.tmod p1 11) + 11)) 11) - Int.toNat (0 : Int))) ++ (ofB ([x8, x9]))) ++ ((x6.1.drop (Int.toNat (IntKind.i64.wrap ((Int.tmod (IntKind.i64.wrap ((Int.tmod p1 11) + 11)) 11) + 2)))).take (Int.toNat (x6.1.length : Int) - Int.toNat (IntKind.i64.wrap ((Int.tmod (IntKind.i64.wrap ((Int.tmod p1 11) + 11)) 11) + 2)))))) (Vs (((x6.1.drop (Int.toNat (0 : Int))).take (Int.toNat (Int.tmod (IntKind.i64.wrap ((Int.tmod p1 11) + 11)) 11) - Int.toNat (0 : Int))) ++ (ofB ([x8, x9])))) (Vs ((x6.1.drop (Int.toNat (IntKind.i64.wrap ((Int.tmod (IntKind.i64.wrap ((Int.tmod p1 11) + 11)) 11) + 2)))).take (Int.toNat (x6.1.length : Int) - Int.toNat (IntKind.i64.wrap ((Int.tmod (IntKind.i64.wrap ((Int.tmod p1 11) + 11)) 11) + 2))))) rfl rfl rfl rfl (bin_sadd (guard_l h)) ?_
 replace h := guard_r h
 refine x_pure 1 [(6, Vs ((((x6.1.drop (Int.toNat (0 : Int))).take (Int.toNat (Int.tmod (IntKind.i64.wrap ((Int.tmod p1 11) + 11)) 11) - Int.toNat (0 : Int))) ++ (ofB ([x8, x9]))) ++ ((x6.1.drop (Int.toNat (IntKind.i64.wrap ((Int.tmod (IntKind.i64.wrap ((Int.tmod p1 11) + 11)) 11) + 2)))).take (Int.toNat (x6.1.length : Int) - Int.toNat (IntKind.i64.wrap ((Int.tmod (IntKind.i64.wrap ((Int.tmod p1 11) + 11)) 11) + 2))))))] _ _ _ (by kernel_rfl) ?_
 refine x_ek ?_
 refine c_norm [(1, Vi (Int.tmod (IntKind.i64.wrap ((Int.tmod p1 11) + 11)) 11)), (5, Vs x6.1), (6, Vs ((((x6.1.drop (Int.toNat (0 : Int))).take (Int.toNat (Int.tmod (IntKind.i64.wrap ((Int.tmod p1 11) + 11)) 11) - Int.toNat (0 : Int))) ++ (ofB ([x8, x9]))) ++ ((x6.1.drop (Int.toNat (IntKind.i64.wrap ((Int.tmod (IntKind.i64.wrap ((Int.tmod p1 11) + 11)) 11) + 2)))).take (Int.toNat (x6.1.length : Int) - Int.toNat (IntKind.i64.wrap ((Int.tmod (IntKind.i64.wrap ((Int.tmod p1 11) + 11)) 11) + 2))))))] ⟨rfl, rfl, rfl, trivial⟩ (fun J => ?_)
 refine c_join (σ := Bool) (fun s => match s with | special_s7_j12 => [(5, Vs x6.1), (6, Vs ((((x6.1.drop (Int.toNat (0 : Int))).take (Int.toNat (Int.tmod (IntKind.i64.wrap ((Int.tmod p1 11) + 11)) 11) - Int.toNat (0 : Int))) ++ (ofB ([x8, x9]))) ++ ((x6.1.drop (Int.toNat (IntKind.i64.wrap ((Int.tmod (IntKind.i64.wrap ((Int.tmod p1 11) + 11)) 11) + 2)))).take (Int.toNat (x6.1.length : Int) - Int.toNat (IntKind.i64.wrap ((Int.tmod (IntKind.i64.wrap ((Int.tmod p1 11) + 11)) 11) + 2)))))), (7, .bool special_s7_j12)]) (fun s w' => match s with | special_s7_j12 => law02_WagonnumberExchange_J12 p1 x6 x8 x9 special_s7_j12 = some r ∧ Ev [] w w' ∧ MS w' [M] ∧ FR w.heap.size []) ?_ ?_
 · refine c_drawn [] [(0, false), (1, false), (2, false), (3, false), (4, false), (5, false), (6, false), (7, false), (8, false), (9, false), (10, false), (11, false), (12, false), (13, false), (14, false), (15, false), (16, false), (17, false), (18, false), (19, false), (20, false), (21, false), (22, false), (23, false), (24, false), (25, false), (26, false), (27, false), (28, false), (29, false), (30, false), (31, false), (32, false), (33, false), (34, false)] _ (by kernel_rfl) rfl ?_
   have hst := Stp.ext (ls := [[b0_3], M]) (Ev.drew w10)
   replace hf3_1 := (Ev.drew w10).box hf3_1 nn
   replace hf3_2 := hf3_2.step hst
   replace hms := hms.ev (Ev.drew w10)
   replace hev := hev.ext (Ev.drew w10)
   refine x_pure 2 [(33, Vs x6.1), (34, Vi (Int.tmod (IntKind.i64.wrap ((Int.tmod p1 11) + 11)) 11))] _ _ _ (by kernel_rfl) ?_
   obtain ⟨x13, hx13, h⟩ := bind_some h
   refine x_index (xv := Vs x6.1) (yv := Vi (Int.tmod (IntKind.i64.wrap ((Int.tmod p1 11) + 11)) 11)) (.int .u8 x13) rfl rfl rfl rfl (reads_sindex tstr9 hx13) ?_
   refine x_pure 3 [(36, Vs x6.1), (37, Vi (Int.tmod (IntKind.i64.wrap ((Int.tmod p1 11) + 11)) 11)), (38, Vi (IntKind.i64.wrap ((Int.tmod (IntKind.i64.wrap ((Int.tmod p1 11) + 11)) 11) + 1)))] _ _ _ (by kernel_rfl) ?_
   obtain ⟨x14, hx14, h⟩ := bind_some h
   refine x_index (xv := Vs x6.1) (yv := Vi (IntKind.i64.wrap ((Int.tmod (IntKind.i64.wrap ((Int.tmod p1 11) + 11)) 11) + 1))) (.int .u8 x14) rfl rfl rfl rfl (reads_sindex tstr9 hx14) ?_
   refine x_pure 2 [(40, .bool (x13 == x14)), (41, .bool (x13 == x14))] _ _ _ (by kernel_rfl) ?_
   refine x_split 41 (x13 == x14) rfl (fun hb => ?_) (fun hb => ?_)
   · replace h := ite_t hb h
     refine x_pure 26 [(42, undef), (43, undef), (44, undef), (45, undef), (46, undef), (47, undef), (48, undef), (49, undef), (50, undef), (51, undef), (52, undef), (53, .bool true), (54, .bool true), (55, undef), (56, undef), (57, undef), (58, undef), (59, undef), (60, undef), (61, undef), (62, undef), (63, undef), (64, undef), (65, undef), (66, .bool true), (7, .bool true)] _ _ _ (by kernel_rfl) ?_
     refine x_end rfl ?_
     have hpk : MS (w10).drew [M] := hms.pick [some 1] _ rfl
     have hsu : ∀ x ∈ fl [M], x ∈ fl [[b0_3], M] := pick_sub [some 1] _ rfl
     replace hms := hpk
     replace hfr : FR w.heap.size [] := hfr.pick [] _ rfl
     clear hpk hsu
     exact k_then ⟨true, ⟨rfl, rfl, rfl, trivial⟩, h, hev, hms, hfr⟩
   replace h := ite_f hb h
   refine x_pure 2 [(42, Vs x6.1), (43, Vi (Int.tmod (IntKind.i64.wrap ((Int.tmod p1 11) + 11)) 11))] _ _ _ (by kernel_rfl) ?_
   obtain ⟨x15, hx15, h⟩ := bind_some h
   refine x_index (xv := Vs x6.1) (yv := Vi (Int.tmod (IntKind.i64.wrap ((Int.tmod p1 11) + 11)) 11)) (.int .u8 x15) rfl rfl rfl rfl (reads_sindex tstr9 hx15) ?_
   refine x_pure 2 [(45, .bool (x15 == 48)), (46, .bool (x15 == 48))] _ _ _ (by kernel_rfl) ?_
   refine x_split 46 (x15 == 48) rfl (fun hb => ?_) (fun hb => ?_)
   · replace h := ite_t hb h
     refine x_pure 3 [(47, Vs x6.1), (48, Vi (Int.tmod (IntKind.i64.wrap ((Int.tmod p1 11) + 11)) 11)), (49, Vi (IntKind.i64.wrap ((Int.tmod (IntKind.i64.wrap ((Int.tmod p1 11) + 11)) 11) + 1)))] _ _ _ (by kernel_rfl) ?_
     obtain ⟨x16, hx16, h⟩ := bind_some h
     refine x_index (xv := Vs x6.1) (yv := Vi (IntKind.i64.wrap ((Int.tmod (IntKind.i64.wrap ((Int.tmod p1 11) + 11)) 11) + 1))) (.int .u8 x16) rfl rfl rfl rfl (reads_sindex tstr9 hx16) ?_
     refine x_pure 4 [(51, .bool (x16 == 57)), (52, .bool (x16 == 57)), (53, .bool (x16 == 57)), (54, .bool (x16 == 57))] _ _ _ (by kernel_rfl) ?_
     refine x_split 54 (x16 == 57) rfl (fun hb => ?_) (fun hb => ?_)
     · replace h := ite_t hb h
       refine x_pure 13 [(55, undef), (56, undef), (57, undef), (58, undef), (59, undef), (60, undef), (61, undef), (62, undef), (63, undef), (64, undef), (65, undef), (66, .bool true), (7, .bool true)] _ _ _ (by kernel_rfl) ?_
       refine x_end rfl ?_
       have hpk : MS (w10).drew [M] := hms.pick [some 1] _ rfl
       have hsu : ∀ x ∈ fl [M], x ∈ fl [[b0_3], M] := pick_sub [some 1] _ rfl
       replace hms := hpk
       replace hfr : FR w.heap.size [] := hfr.pick [] _ rfl
       clear hpk hsu
       exact k_then ⟨true, ⟨rfl, rfl, rfl, trivial⟩, h, hev, hms, hfr⟩
     replace h := ite_f hb h
     refine x_pure 2 [(55, Vs x6.1), (56, Vi (Int.tmod (IntKind.i64.wrap ((Int.tmod p1 11) + 11)) 11))] _ _ _ (by kernel_rfl) ?_
     obtain ⟨x17, hx17, h⟩ := bind_some h
     refine x_index (xv := Vs x6.1) (yv := Vi (Int.tmod (IntKind.i64.wrap ((Int.tmod p1 11) + 11)) 11)) (.int .u8 x17) rfl rfl rfl rfl (reads_sindex tstr9 hx17) ?_
     refine x_pure 2 [(58, .bool (x17 == 57)), (59, .bool (x17 == 57))] _ _ _ (by kernel_rfl) ?_
     refine x_split 59 (x17 == 57) rfl (fun hb => ?_) (fun hb => ?_)
     · replace h := ite_t hb h
       refine x_pure 3 [(60, Vs x6.1), (61, Vi (Int.tmod (IntKind.i64.wrap ((Int.tmod p1 11) + 11)) 11)), (62, Vi (IntKind.i64.wrap ((Int.tmod (IntKind.i64.wrap ((Int.tmod p1 11) + 11)) 11) + 1)))] _ _ _ (by kernel_rfl) ?_
       obtain ⟨x18, hx18, h⟩ := bind_some h
       refine x_index (xv := Vs x6.1) (yv := Vi (IntKind.i64.wrap ((Int.tmod (IntKind.i64.wrap ((Int.tmod p1 11) + 11)) 11) + 1))) (.int .u8 x18) rfl rfl rfl rfl (reads_sindex tstr9 hx18) ?_
       refine x_pure 4 [(64, .bool (x18 == 48)), (65, .bool (x18 == 48)), (66, .bool (x18 == 48)), (7, .bool (x18 == 48))] _ _ _ (by kernel_rfl) ?_
       refine x_end rfl ?_
       have hpk : MS (w10).drew [M] := hms.pick [some 1] _ rfl
       have hsu : ∀ x ∈ fl [M], x ∈ fl [[b0_3], M] := pick_sub [some 1] _ rfl
       replace hms := hpk
       replace hfr : FR w.heap.size [] := hfr.pick [] _ rfl
       clear hpk hsu
       exact k_then ⟨x18 == 48, ⟨rfl, rfl, rfl, trivial⟩, h, hev, hms, hfr⟩
     replace h := ite_f hb h
     refine x_pure 8 [(60, undef), (61, undef), (62, undef), (63, undef), (64, undef), (65, .bool false), (66, .bool false), (7, .bool false)] _ _ _ (by kernel_rfl) ?_
     refine x_end rfl ?_
     have hpk : MS (w10).drew [M] := hms.pick [some 1] _ rfl
     have hsu : ∀ x ∈ fl [M], x ∈ fl [[b0_3], M] := pick_sub [some 1] _ rfl
     replace hms := hpk
     replace hfr : FR w.heap.size [] := hfr.pick [] _ rfl
     clear hpk hsu
     exact k_then ⟨false, ⟨rfl, rfl, rfl, trivial⟩, h, hev, hms, hfr⟩
   replace h := ite_f hb h
   refine x_pure 10 [(47, undef), (48, undef), (49, undef), (50, undef), (51, undef), (52, .bool false), (53, .bool false), (54, .bool false), (55, Vs x6.1), (56, Vi (Int.tmod (IntKind.i64.wrap ((Int.tmod p1 11) + 11)) 11))] _ _ _ (by kernel_rfl) ?_
   obtain ⟨x19, hx19, h⟩ := bind_some h
   refine x_index (xv := Vs x6.1) (yv := Vi (Int.tmod (IntKind.i64.wrap ((Int.tmod p1 11) + 11)) 11)) (.int .u8 x19) rfl rfl rfl rfl (reads_sindex tstr9 hx19) ?_
   refine x_pure 2 [(58, .bool (x19 == 57)), (59, .bool (x19 == 57))] _ _ _ (by kernel_rfl) ?_
   refine x_split 59 (x19 == 57) rfl (fun hb => ?_) (fun hb => ?_)
   · replace h := ite_t hb h
     refine x_pure 3 [(60, Vs x6.1), (61, Vi (Int.tmod (IntKind.i64.wrap ((Int.tmod p1 11) + 11)) 11)), (62, Vi (IntKind.i64.wrap ((Int.tmod (IntKind.i64.wrap ((Int.tmod p1 11) + 11)) 11) + 1)))] _ _ _ (by kernel_rfl) ?_
     obtain ⟨x20, hx20, h⟩ := bind_some h
     refine x_index (xv := Vs x6.1) (yv := Vi (IntKind.i64.wrap ((Int.tmod (IntKind.i64.wrap ((Int.tmod p1 11) + 11)) 11) + 1))) (.int .u8 x20) rfl rfl rfl rfl (reads_sindex tstr9 hx20) ?_
     refine x_pure 4 [(64, .bool (x20 == 48)), (65, .bool (x20 == 48)), (66, .bool (x20 == 48)), (7, .bool (x20 == 48))] _ _ _ (by kernel_rfl) ?_
     refine x_end rfl ?_
     have hpk : MS (w10).drew [M] := hms.pick [some 1] _ rfl
     have hsu : ∀ x ∈ fl [M], x ∈ fl [[b0_3], M] := pick_sub [some 1] _ rfl
     replace hms := hpk
     replace hfr : FR w.heap.size [] := hfr.pick [] _ rfl
     clear hpk hsu
     exact k_then ⟨x20 == 48, ⟨rfl, rfl, rfl, trivial⟩, h, hev, hms, hfr⟩
   replace h := ite_f hb h
   refine x_pure 8 [(60, undef), (61, undef), (62, undef), (63, undef), (64, undef), (65, .bool false), (66, .bool false), (7, .bool false)] _ _ _ (by kernel_rfl) ?_
   refine x_end rfl ?_
   have hpk : MS (w10).drew [M] := hms.pick [some 1] _ rfl
   have hsu : ∀ x ∈ fl [M], x ∈ fl [[b0_3], M] := pick_sub [some 1] _ rfl
   replace hms := hpk
   replace hfr : FR w.heap.size [] := hfr.pick [] _ rfl
   clear hpk hsu
   exact k_then ⟨false, ⟨rfl, rfl, rfl, trivial⟩, h, hev, hms, hfr⟩
 rintro special_s7_j12 J wj12 ⟨h, hev, hms, hfr⟩
 refine c_sp ?_
 refine x_pure 1 [(67, Vs x6.1)] _ _ _ (by kernel_rfl) ?_
 obtain ⟨x21, hx, h⟩ := bind_some h
 have hcall := wagonnumber_Valid_w x6.1 _ wj12 hx
 refine x_call 11 #[] #[] [Vs x6.1] _ rfl rfl rfl rfl hcall ?_
 rintro v w22 ⟨rfl, he22⟩
 clear hcall hx
 refine inl1 ?_
 replace hms := hms.ev he22
 replace hev := hev.ext he22
 refine x_pure 2 [(69, .bool (x21 == 0)), (70, .bool (x21 == 0))] _ _ _ (by kernel_rfl) ?_
 refine x_split 70 (x21 == 0) rfl (fun hb => ?_) (fun hb => ?_)
 · replace h := ite_t hb h
   refine x_pure 1 [(71, Vs ((((x6.1.drop (Int.toNat (0 : Int))).take (Int.toNat (Int.tmod (IntKind.i64.wrap ((Int.tmod p1 11) + 11)) 11) - Int.toNat (0 : Int))) ++ (ofB ([x8, x9]))) ++ ((x6.1.drop (Int.toNat (IntKind.i64.wrap ((Int.tmod (IntKind.i64.wrap ((Int.tmod p1 11) + 11)) 11) + 2)))).take (Int.toNat (x6.1.length : Int) - Int.toNat (IntKind.i64.wrap ((Int.tmod (IntKind.i64.wrap ((Int.tmod p1 11) + 11)) 11) + 2))))))] _ _ _ (by kernel_rfl) ?_
   obtain ⟨x23, hx, h⟩ := bind_some h
   have hcall := wagonnumber_Valid_w ((((x6.1.drop (Int.toNat (0 : Int))).take (Int.toNat (Int.tmod (IntKind.i64.wrap ((Int.tmod p1 11) + 11)) 11) - Int.toNat (0 : Int))) ++ (ofB ([x8, x9]))) ++ ((x6.1.drop (Int.toNat (IntKind.i64.wrap ((Int.tmod (IntKind.i64.wrap ((Int.tmod p1 11) + 11)) 11) + 2)))).take (Int.toNat (x6.1.length : Int) - Int.toNat (IntKind.i64.wrap ((Int.tmod (IntKind.i64.wrap ((Int.tmod p1 11) + 11)) 11) + 2))))) _ w22 hx
   refine x_call 11 #[] #[] [Vs ((((x6.1.drop (Int.toNat (0 : Int))).take (Int.toNat (Int.tmod (IntKind.i64.wrap ((Int.tmod p1 11) + 11)) 11) - Int.toNat (0 : Int))) ++ (ofB ([x8, x9]))) ++ ((x6.1.drop (Int.toNat (IntKind.i64.wrap ((Int.tmod (IntKind.i64.wrap ((Int.tmod p1 11) + 11)) 11) + 2)))).take (Int.toNat (x6.1.length : Int) - Int.toNat (IntKind.i64.wrap ((Int.tmod (IntKind.i64.wrap ((Int.tmod p1 11) + 11)) 11) + 2)))))] _ rfl rfl rfl rfl hcall ?_
   rintro v w24 ⟨rfl, he24⟩
   clear hcall hx
   refine inl1 ?_
   replace hms := hms.ev he24
   replace hev := hev.ext he24
   refine x_pure 2 [(73, .bool (x23 == 0)), (74, .bool special_s7_j12)] _ _ _ (by kernel_rfl) ?_
   refine x_binop (.bool ((x23 == 0) == special_s7_j12)) (.bool (x23 == 0)) (.bool special_s7_j12) rfl rfl rfl rfl (vb_booleql tbool4) ?_
   refine x_pure 2 [(76, .bool ((x23 == 0) == special_s7_j12)), (77, .bool ((x23 == 0) == special_s7_j12))] _ _ _ (by kernel_rfl) ?_
   refine x_split 77 ((x23 == 0) == special_s7_j12) rfl (fun hb => ?_) (fun hb => ?_)
   · replace h := ite_t hb h
     obtain ⟨x25, hx, h⟩ := bind_some h
     have hcall := law02_sane_w _ w24 hx
     refine x_call 13 #[] #[] [] _ rfl rfl rfl rfl hcall ?_
     rintro v w26 ⟨rfl, he26⟩
     clear hcall hx
     refine inl1 ?_
     replace hms := hms.ev he26
     replace hev := hev.ext he26
     refine x_pure 2 [(79, .bool x25), (4, .bool x25)] _ _ _ (by kernel_rfl) ?_
     refine x_ek ?_
     refine c_norm [(4, .bool x25)] ⟨rfl, trivial⟩ (fun J => ?_)
     refine c_ret ?_
     refine r_ret (r_vals [.bool x25] ⟨rfl, trivial⟩ ?_)
     have hx := some_inj h
     subst hx
     have hmr : MS w26 [M] := hms.pick [some 0] _ rfl
     have hsu : ∀ x ∈ fl [M], x ∈ fl [M] := pick_sub [some 0] _ rfl
     exact ⟨rfl, hev⟩
   replace h := ite_f hb h
   refine x_pure 3 [(78, undef), (79, .bool false), (4, .bool false)] _ _ _ (by kernel_rfl) ?_
   refine x_ek ?_
   refine c_norm [(4, .bool false)] ⟨rfl, trivial⟩ (fun J => ?_)
   refine c_ret ?_
   refine r_ret (r_vals [.bool false] ⟨rfl, trivial⟩ ?_)
   have hx := some_inj h
   subst hx
   have hmr : MS w24 [M] := hms.pick [some 0] _ rfl
   have hsu : ∀ x ∈ fl [M], x ∈ fl [M] := pick_sub [some 0] _ rfl
   exact ⟨rfl, hev⟩
 replace h := ite_f hb h
 refine x_pure 10 [(71, undef), (72, undef), (73, undef), (74, undef), (75, undef), (76, .bool false), (77, .bool false), (78, undef), (79, .bool false), (4, .bool false)] _ _ _ (by kernel_rfl) ?_
 refine x_ek ?_
 refine c_norm [(4, .bool false)] ⟨rfl, trivial⟩ (fun J => ?_)
 refine c_ret ?_
 refine r_ret (r_vals [.bool false] ⟨rfl, trivial⟩ ?_)
 have hx := some_inj h
 subst hx
 have hmr : MS w22 [M] := hms.pick [some 0] _ rfl
 have hsu : ∀ x ∈ fl [M], x ∈ fl [M] := pick_sub [some 0] _ rfl
 exact ⟨rfl, hev⟩
end Go.Proofs.Yteimkmjnjnaifaa
