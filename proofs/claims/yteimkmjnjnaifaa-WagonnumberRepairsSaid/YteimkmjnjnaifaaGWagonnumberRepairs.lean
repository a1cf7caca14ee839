/- Walks, printed by program: each function returns what the partial function of the same name returns. Conditions: those of each theorem. -/
import Derived.Test.YteimkmjnjnaifaaGT
import Derived.Test.YteimkmjnjnaifaaGgen
import Derived.Test.YteimkmjnjnaifaaGlaw02sane
import Derived.Test.YteimkmjnjnaifaaGwagonnumber
set_option linter.unusedVariables false
set_option linter.unusedSimpArgs false
set_option maxRecDepth 4000
namespace Go.Proofs.Yteimkmjnjnaifaa
open Go Go.V Go.Proofs
def law02_WagonnumberRepairs_L27 (v_s_s4_j8 : List UInt8) (x19 : List UInt8) (s : (List Int) × Int) : Option (Step ((List Int) × Int) (List Int)) :=
match s with
| (d29_l27, j_s10_l27) =>
(if (decide (j_s10_l27 < 12)) = true then
((sAt x19 j_s10_l27).bind fun x33 =>
((sAt v_s_s4_j8 j_s10_l27).bind fun x34 =>
(if (x33 != x34) = true then
(if d29_l27.length + ([j_s10_l27]).length ≤ 4294967296 then
some (.next ((d29_l27 ++ [j_s10_l27]), IntKind.i64.wrap (j_s10_l27 + 1)))
else none)
else
some (.next (d29_l27, IntKind.i64.wrap (j_s10_l27 + 1))))))
else
some (.done d29_l27))

def law02_WagonnumberRepairs_J21 (v_s_s4_j8 : List UInt8) (t27__s27_l17 : Int) (x19 : List UInt8) : Option (Step Int (Unit ⊕ Unit)) :=
((loop (law02_WagonnumberRepairs_L27 v_s_s4_j8 x19) (([] : List Int), 0)).bind fun d => match d with
| d29_x27 => (if (((d29_x27).length : Int) != 1) = true then
(if (((d29_x27).length : Int) == 2) = true then
((idx d29_x27 1).bind fun x38 =>
((idx d29_x27 0).bind fun x40 =>
(if (x38 == (IntKind.i64.wrap (x40 + 1))) = true then
((idx d29_x27 0).bind fun x42 =>
((sAt x19 x42).bind fun x44 =>
((idx d29_x27 1).bind fun x45 =>
((sAt v_s_s4_j8 x45).bind fun x47 =>
(if (x44 == x47) = true then
((idx d29_x27 1).bind fun x48 =>
((sAt x19 x48).bind fun x50 =>
((idx d29_x27 0).bind fun x51 =>
((sAt v_s_s4_j8 x51).bind fun x53 =>
(if (!(x50 == x53)) = true then
some (.done (.inl ()))
else
some (.next (IntKind.i64.wrap (t27__s27_l17 + 1))))))))
else
some (.done (.inl ())))))))
else
some (.done (.inl ())))))
else
some (.done (.inl ())))
else
some (.next (IntKind.i64.wrap (t27__s27_l17 + 1)))))

def law02_WagonnumberRepairs_L17 (v_s_s4_j8 : List UInt8) (x13 : (List (List UInt8)) × Int) (s : Int) : Option (Step Int (Unit ⊕ Unit)) :=
match s with
| t27__s27_l17 =>
(if (decide (t27__s27_l17 < ((x13.1).length : Int))) = true then
((idx x13.1 t27__s27_l17).bind fun x19 =>
(if ((x19.length : Int) != 12) = true then
some (.done (.inl ()))
else
((wagonnumber_Valid x19).bind fun x22 =>
(if (x22 != 0) = true then
some (.done (.inl ()))
else
(if (x19 == v_s_s4_j8) = true then
some (.done (.inl ()))
else
(if (decide (t27__s27_l17 > 0)) = true then
((idx x13.1 (IntKind.i64.wrap (t27__s27_l17 - 1))).bind fun x24 =>
(if (!sLt x24 x19) = true then
some (.done (.inl ()))
else
law02_WagonnumberRepairs_J21 v_s_s4_j8 t27__s27_l17 x19))
else
law02_WagonnumberRepairs_J21 v_s_s4_j8 t27__s27_l17 x19))))))
else
some (.done (.inr ())))

def law02_WagonnumberRepairs_J8 (v_s_s4_j8 : List UInt8) : Option Bool :=
((wagonnumber_Repairs v_s_s4_j8).bind fun x13 =>
((loop (law02_WagonnumberRepairs_L17 v_s_s4_j8 x13) 0).bind fun d => match d with
| (.inl _) => some false
| (.inr _) => (if (x13.2 == 0) = true then
((law02_sane).bind fun x54 =>
some x54)
else
some false)))

def law02_WagonnumberRepairs (p0 : List Int) : Option Bool :=
((gen_New p0).bind fun x2 =>
((gen_Maker_Digits x2.1 x2.2 12).bind fun x6 =>
((gen_Maker_Next x2.1 x6.2 3).bind fun x9 =>
(if (x9.1 == 0) = true then
((gen_Maker_Number x2.1 x9.2 3).bind fun x11 =>
law02_WagonnumberRepairs_J8 x11.1)
else
law02_WagonnumberRepairs_J8 x6.1))))

theorem law02_WagonnumberRepairs_w (a_p0 : Option Addr) (c_p0 : Nat) (p0 : List Int) (r : Bool) (w : World) (M : List Nat) (hms : MS w [M]) (hs_p0 : SlR (eInt .i64) w (fl [M]) a_p0 c_p0 p0) (h : law02_WagonnumberRepairs p0 = some r) : CallVC Try.prog 6 [.slice a_p0 (p0).length c_p0] w fun v w' => v = .bool r ∧ Ev [] w w' := by
 refine calls_vc hmx Try.func6 (by kernel_rfl) rfl (rs := [.tmp 2]) rfl (by kernel_rfl) (args := [.slice a_p0 (p0).length c_p0]) rfl ?_
 have hev : Ev [] w w := Ev.refl _ _
 have hfr : FR w.heap.size [] := FR.nil _
 refine c_sp ?_
 refine x_pure 1 [(2, .bool false)] _ _ _ (by kernel_rfl) ?_
 refine x_ek ?_
 refine c_sp ?_
 refine x_pure 1 [(11, .slice a_p0 (p0).length c_p0)] _ _ _ (by kernel_rfl) ?_
 obtain ⟨x2, hx, h⟩ := bind_some h
 have hpk : MS w ([] ++ [M]) := hms.pick [some 0] _ rfl
 have hsb0 : ∀ x ∈ fl ([] ++ [M]), x ∈ fl [M] := pick_sub [some 0] _ rfl
 have hsb : ∀ x ∈ fl ([] ++ [(fl [M])]), x ∈ fl [M] := fun x hx => hsb0 x (fl_unfold x hx)
 have hcall := gen_New_w a_p0 c_p0 p0 _ w (fl [M]) (MS.fold (P := []) hpk) (hs_p0.sub hsb) hx
 refine x_call 9 #[] #[] [.slice a_p0 (p0).length c_p0] _ rfl rfl rfl rfl hcall ?_
 rintro v w3 ⟨b0_3, a1_3, c1_3, rfl, he3, hmn3, hfn3, hf3_1, hf3_2⟩
 clear hcall hx
 refine inl1 ?_
 have hpk2 : MS w ([] ++ [M]) := hms.pick [some 0] _ rfl
 have hsb2 : ∀ x ∈ fl ([] ++ [M]), x ∈ fl [M] := pick_sub [some 0] _ rfl
 have hst0 := Stp.call (LS := [M]) (res := [[b0_3]]) (par := []) (R := [M]) he3 (fun b hb => hsb2 b (fl_left' (P := []) b hb)) hfn3 (NP.init _ _) (fun x hx => hsb2 x (fl_right' (P := []) x hx))
 have hsn : ∀ x ∈ fl [[b0_3], M], x ∈ fl ([[b0_3]] ++ ([] ++ [M])) := pick_sub [some 0, some 1] _ rfl
 have hst := hst0.res hsn
 replace hs_p0 := hs_p0.step hst
 replace hms : MS w3 [[b0_3], M] := (MS.call (P := []) (R := [M]) (res := [[b0_3]]) (par := []) hpk2 he3 hmn3 hfn3 (NP.init _ _)).pick [some 0, some 1] _ rfl
 have hfr2 : FR w.heap.size [[b0_3]] := (FR.cons (fun b hb => Nat.le_trans hev.size (hfn3.at 0 rfl b hb)) (FR.nil _))
 replace hev := hev.ext he3
 replace hfr := hfr2
 clear hfr2
 have hsp : ∀ x ∈ fl [[b0_3], M], x ∈ fl ([[b0_3]] ++ ([] ++ [(fl [M])])) := fun x hx => fl_tot (res := [[b0_3]]) (par := []) (R := [M]) x (hsn x hx)
 replace hf3_2 := hf3_2.sub hsp
 clear hpk hsb hsb0 hpk2 hsb2 hst0 hsn hst
 refine x_pure 1 [(3, Vp b0_3 0)] _ _ _ (by kernel_rfl) ?_
 refine x_ek ?_
 refine c_sp ?_
 refine x_pure 1 [(13, Vp b0_3 0)] _ _ _ (by kernel_rfl) ?_
 obtain ⟨x6, hx, h⟩ := bind_some h
 have hpk : MS w3 ([[b0_3]] ++ [M]) := hms.pick [some 0, some 1] _ rfl
 have hsb0 : ∀ x ∈ fl ([[b0_3]] ++ [M]), x ∈ fl [[b0_3], M] := pick_sub [some 0, some 1] _ rfl
 have hsb : ∀ x ∈ fl ([[b0_3]] ++ [(fl [M])]), x ∈ fl [[b0_3], M] := fun x hx => hsb0 x (fl_unfold x hx)
 have hcall := gen_Maker_Digits_w b0_3 a1_3 c1_3 x2.1 x2.2 12 _ w3 (fl [M]) (hpk.fold (P := [[b0_3]])) (hf3_2.sub hsb) hf3_1 hx
 refine x_call 14 #[] #[] [Vp b0_3 0, Vi 12] _ rfl rfl rfl rfl hcall ?_
 rintro v w7 ⟨rfl, he7, hp7_0⟩
 clear hcall hx
 refine inl1 ?_
 have hpk2 : MS w3 ([[b0_3]] ++ [M]) := hms.pick [some 0, some 1] _ rfl
 have hsb2 : ∀ x ∈ fl ([[b0_3]] ++ [M]), x ∈ fl [[b0_3], M] := pick_sub [some 0, some 1] _ rfl
 have hst0 := Stp.call (LS := [[b0_3], M]) (res := []) (par := [[b0_3]]) (R := [M]) he7 (fun b hb => hsb2 b (fl_left' (P := [[b0_3]]) b hb)) (FR.nil _) (NP.init _ _) (fun x hx => hsb2 x (fl_right' (P := [[b0_3]]) x hx))
 have hsn : ∀ x ∈ fl [[b0_3], M], x ∈ fl ([] ++ ([[b0_3]] ++ [M])) := pick_sub [some 0, some 1] _ rfl
 have hst := hst0.res hsn
 replace hf3_2 := hf3_2.step hst
 replace hms := hms.ev he7
 have hPf : ∀ b ∈ fl [[b0_3]], w.heap.size ≤ b := FR.mem (ls := [[b0_3]]) (hfr.pick [some 0] _ rfl)
 replace hev := hev.then he7 (fun b hb => .inr (hPf b hb))
 replace hf3_1 := hp7_0
 clear hpk hsb hsb0 hpk2 hsb2 hst0 hsn hst
 refine x_pure 1 [(4, Vs x6.1)] _ _ _ (by kernel_rfl) ?_
 refine x_ek ?_
 refine c_join (σ := (List UInt8)) (fun s => match s with | v_s_s4_j8 => [(4, Vs v_s_s4_j8)]) (fun s w' => match s with | v_s_s4_j8 => law02_WagonnumberRepairs_J8 v_s_s4_j8 = some r ∧ Ev [] w w' ∧ MS w' [M] ∧ FR w.heap.size []) ?_ ?_
 · refine c_sp ?_
   refine x_pure 1 [(15, Vp b0_3 0)] _ _ _ (by kernel_rfl) ?_
   obtain ⟨x9, hx, h⟩ := bind_some h
   have hpk : MS w7 ([[b0_3]] ++ [M]) := hms.pick [some 0, some 1] _ rfl
   have hsb0 : ∀ x ∈ fl ([[b0_3]] ++ [M]), x ∈ fl [[b0_3], M] := pick_sub [some 0, some 1] _ rfl
   have hsb : ∀ x ∈ fl ([[b0_3]] ++ [(fl [M])]), x ∈ fl [[b0_3], M] := fun x hx => hsb0 x (fl_unfold x hx)
   have hcall := gen_Maker_Next_w b0_3 a1_3 c1_3 x2.1 x6.2 3 _ w7 (fl [M]) (hpk.fold (P := [[b0_3]])) (hf3_2.sub hsb) hf3_1 hx
   refine x_call 15 #[] #[] [Vp b0_3 0, Vi 3] _ rfl rfl rfl rfl hcall ?_
   rintro v w10 ⟨rfl, he10, hp10_0⟩
   clear hcall hx
   refine inl1 ?_
   have hpk2 : MS w7 ([[b0_3]] ++ [M]) := hms.pick [some 0, some 1] _ rfl
   have hsb2 : ∀ x ∈ fl ([[b0_3]] ++ [M]), x ∈ fl [[b0_3], M] := pick_sub [some 0, some 1] _ rfl
   have hst0 := Stp.call (LS := [[b0_3], M]) (res := []) (par := [[b0_3]]) (R := [M]) he10 (fun b hb => hsb2 b (fl_left' (P := [[b0_3]]) b hb)) (FR.nil _) (NP.init _ _) (fun x hx => hsb2 x (fl_right' (P := [[b0_3]]) x hx))
   have hsn : ∀ x ∈ fl [[b0_3], M], x ∈ fl ([] ++ ([[b0_3]] ++ [M])) := pick_sub [some 0, some 1] _ rfl
   have hst := hst0.res hsn
   replace hf3_2 := hf3_2.step hst
   replace hms := hms.ev he10
   have hPf : ∀ b ∈ fl [[b0_3]], w.heap.size ≤ b := FR.mem (ls := [[b0_3]]) (hfr.pick [some 0] _ rfl)
   replace hev := hev.then he10 (fun b hb => .inr (hPf b hb))
   replace hf3_1 := hp10_0
   clear hpk hsb hsb0 hpk2 hsb2 hst0 hsn hst
   refine x_pure 1 [(17, .bool (x9.1 == 0))] _ _ _ (by kernel_rfl) ?_
   refine x_ek ?_
   refine c_cond (x9.1 == 0) rfl (fun hb => ?_) (fun hb => ?_)
   · replace h := ite_t hb h
     refine c_plain ?_
     refine x_pure 1 [(18, Vp b0_3 0)] _ _ _ (by kernel_rfl) ?_
     obtain ⟨x11, hx, h⟩ := bind_some h
     have hpk : MS w10 ([[b0_3]] ++ [M]) := hms.pick [some 0, some 1] _ rfl
     have hsb0 : ∀ x ∈ fl ([[b0_3]] ++ [M]), x ∈ fl [[b0_3], M] := pick_sub [some 0, some 1] _ rfl
     have hsb : ∀ x ∈ fl ([[b0_3]] ++ [(fl [M])]), x ∈ fl [[b0_3], M] := fun x hx => hsb0 x (fl_unfold x hx)
     have hcall := gen_Maker_Number_w b0_3 a1_3 c1_3 x2.1 x9.2 3 _ w10 (fl [M]) (hpk.fold (P := [[b0_3]])) (hf3_2.sub hsb) hf3_1 hx
     refine x_call 10 #[] #[] [Vp b0_3 0, Vi 3] _ rfl rfl rfl rfl hcall ?_
     rintro v w12 ⟨rfl, he12, hp12_0⟩
     clear hcall hx
     refine inl1 ?_
     have hpk2 : MS w10 ([[b0_3]] ++ [M]) := hms.pick [some 0, some 1] _ rfl
     have hsb2 : ∀ x ∈ fl ([[b0_3]] ++ [M]), x ∈ fl [[b0_3], M] := pick_sub [some 0, some 1] _ rfl
     have hst0 := Stp.call (LS := [[b0_3], M]) (res := []) (par := [[b0_3]]) (R := [M]) he12 (fun b hb => hsb2 b (fl_left' (P := [[b0_3]]) b hb)) (FR.nil _) (NP.init _ _) (fun x hx => hsb2 x (fl_right' (P := [[b0_3]]) x hx))
     have hsn : ∀ x ∈ fl [[b0_3], M], x ∈ fl ([] ++ ([[b0_3]] ++ [M])) := pick_sub [some 0, some 1] _ rfl
     have hst := hst0.res hsn
     replace hf3_2 := hf3_2.step hst
     replace hms := hms.ev he12
     have hPf : ∀ b ∈ fl [[b0_3]], w.heap.size ≤ b := FR.mem (ls := [[b0_3]]) (hfr.pick [some 0] _ rfl)
     replace hev := hev.then he12 (fun b hb => .inr (hPf b hb))
     replace hf3_1 := hp12_0
     clear hpk hsb hsb0 hpk2 hsb2 hst0 hsn hst
     refine x_pure 1 [(4, Vs x11.1)] _ _ _ (by kernel_rfl) ?_
     refine x_end rfl ?_
     have hpk : MS w12 [M] := hms.pick [some 1] _ rfl
     have hsu : ∀ x ∈ fl [M], x ∈ fl [[b0_3], M] := pick_sub [some 1] _ rfl
     replace hms := hpk
     replace hfr : FR w.heap.size [] := hfr.pick [] _ rfl
     clear hpk hsu
     exact k_then ⟨x11.1, ⟨rfl, trivial⟩, h, hev, hms, hfr⟩
   replace h := ite_f hb h
   refine c_skip ?_
   have hpk : MS w10 [M] := hms.pick [some 1] _ rfl
   have hsu : ∀ x ∈ fl [M], x ∈ fl [[b0_3], M] := pick_sub [some 1] _ rfl
   replace hms := hpk
   replace hfr : FR w.heap.size [] := hfr.pick [] _ rfl
   clear hpk hsu
   exact k_then ⟨x6.1, ⟨rfl, trivial⟩, h, hev, hms, hfr⟩
 rintro v_s_s4_j8 J wj8 ⟨h, hev, hms, hfr⟩
 refine c_sp ?_
 refine x_pure 1 [(21, Vs v_s_s4_j8)] _ _ _ (by kernel_rfl) ?_
 obtain ⟨x13, hx, h⟩ := bind_some h
 have hpk : MS wj8 ([] ++ [M]) := hms.pick [some 0] _ rfl
 have hsb0 : ∀ x ∈ fl ([] ++ [M]), x ∈ fl [M] := pick_sub [some 0] _ rfl
 have hsb : ∀ x ∈ fl ([] ++ [(fl [M])]), x ∈ fl [M] := fun x hx => hsb0 x (fl_unfold x hx)
 have hcall := wagonnumber_Repairs_w v_s_s4_j8 _ wj8 (fl [M]) (MS.fold (P := []) hpk)  hx
 refine x_call 12 #[] #[] [Vs v_s_s4_j8] _ rfl rfl rfl rfl hcall ?_
 rintro v w14 ⟨a0_14, c0_14, rfl, he14, hmn14, hfn14, hf14_1⟩
 clear hcall hx
 refine inl1 ?_
 have hpk2 : MS wj8 ([] ++ [M]) := hms.pick [some 0] _ rfl
 have hsb2 : ∀ x ∈ fl ([] ++ [M]), x ∈ fl [M] := pick_sub [some 0] _ rfl
 have hst0 := Stp.call (LS := [M]) (res := [blk a0_14]) (par := []) (R := [M]) he14 (fun b hb => hsb2 b (fl_left' (P := []) b hb)) hfn14 (NP.init _ _) (fun x hx => hsb2 x (fl_right' (P := []) x hx))
 have hsn : ∀ x ∈ fl [blk a0_14, M], x ∈ fl ([blk a0_14] ++ ([] ++ [M])) := pick_sub [some 0, some 1] _ rfl
 have hst := hst0.res hsn
 replace hms : MS w14 [blk a0_14, M] := (MS.call (P := []) (R := [M]) (res := [blk a0_14]) (par := []) hpk2 he14 hmn14 hfn14 (NP.init _ _)).pick [some 0, some 1] _ rfl
 have hfr2 : FR w.heap.size [blk a0_14] := (FR.cons (fun b hb => Nat.le_trans hev.size (hfn14.at 0 rfl b hb)) (FR.nil _))
 replace hev := hev.ext he14
 replace hfr := hfr2
 clear hfr2
 replace hf14_1 := OwnS.plain (M' := fl [blk a0_14, M]) plain_str hf14_1
 clear hpk hsb hsb0 hpk2 hsb2 hst0 hsn hst
 have hpk : MS w14 [M] := hms.pick [some 1] _ rfl
 have hsu : ∀ x ∈ fl [M], x ∈ fl [blk a0_14, M] := pick_sub [some 1] _ rfl
 replace hf14_1 := hf14_1.ro hsu (pick_out hms 0 rfl [some 1] [M] rfl rfl)
 replace hms := hpk
 replace hfr : FR w.heap.size [] := hfr.pick [] _ rfl
 clear hpk hsu
 refine x_pure 5 [(20, .tuple #[.slice a0_14 (x13.1).length c0_14, Vi x13.2]), (23, .slice a0_14 (x13.1).length c0_14), (24, Vi x13.2), (5, .slice a0_14 (x13.1).length c0_14), (6, Vi x13.2)] _ _ _ (by kernel_rfl) ?_
 refine x_ek ?_
 refine c_norm [(4, Vs v_s_s4_j8), (5, .slice a0_14 (x13.1).length c0_14), (6, Vi x13.2)] ⟨rfl, rfl, rfl, trivial⟩ (fun J => ?_)
 refine c_seq ?_
 refine c_sp ?_
 refine x_pure 1 [(25, .slice a0_14 (x13.1).length c0_14)] _ _ _ (by kernel_rfl) ?_
 refine x_len (vs := [.slice a0_14 (x13.1).length c0_14]) (Vi ((x13.1).length : Int)) rfl rfl rfl (reads_len tsl29 _ _ _ _ _) ?_
 refine x_pure 1 [(27, Vi 0)] _ _ _ (by kernel_rfl) ?_
 refine x_ek ?_
 refine c_block ?_
 obtain ⟨d17, hd17, h17⟩ := bind_some h
 obtain ⟨m17, hd17⟩ := loop_some hd17
 refine c_loop (loop_rule hmx (σ := Nat × Int) (fun s => match s with | (_, t27__s27_l17) => [(4, Vs v_s_s4_j8), (5, .slice a0_14 (x13.1).length c0_14), (6, Vi x13.2), (25, .slice a0_14 (x13.1).length c0_14), (26, Vi ((x13.1).length : Int)), (27, Vi t27__s27_l17)]) (fun s w' => match s with | (m, t27__s27_l17) => loopN (law02_WagonnumberRepairs_L17 v_s_s4_j8 x13) m t27__s27_l17 = some d17 ∧ Ev [] w w' ∧ MS w' [M] ∧ FR w.heap.size [] ∧ SlR eStr w' (fl [M]) a0_14 c0_14 x13.1) (fun s => s.1) (m17, 0) ⟨rfl, rfl, rfl, rfl, rfl, rfl, trivial⟩ ⟨hd17, hev, hms, hfr, hf14_1⟩ ?_)
 rintro ⟨m17, t27__s27_l17⟩ J wl17 ⟨hn17, hev, hms, hfr, hf14_1⟩
 rcases m17 with _ | m17
 · exact (loopN_zero hn17).elim
 obtain ⟨t17, h, hn17⟩ := bind_some hn17
 refine c_sp ?_
 refine x_pure 1 [(28, .bool (decide (t27__s27_l17 < ((x13.1).length : Int))))] _ _ _ (by kernel_rfl) ?_
 refine x_ek ?_
 refine c_norm [(4, Vs v_s_s4_j8), (5, .slice a0_14 (x13.1).length c0_14), (6, Vi x13.2), (25, .slice a0_14 (x13.1).length c0_14), (26, Vi ((x13.1).length : Int)), (27, Vi t27__s27_l17), (28, .bool (decide (t27__s27_l17 < ((x13.1).length : Int))))] ⟨rfl, rfl, rfl, rfl, rfl, rfl, rfl, trivial⟩ (fun J => ?_)
 refine c_seq ?_
 refine c_cond (decide (t27__s27_l17 < ((x13.1).length : Int))) rfl (fun hb => ?_) (fun hb => ?_)
 · replace h := ite_t hb h
   refine c_skip ?_
   refine k_then ?_
   refine c_seq ?_
   refine c_block ?_
   refine c_sp ?_
   refine x_pure 1 [(29, Vi t27__s27_l17)] _ _ _ (by kernel_rfl) ?_
   obtain ⟨x19, hx19, h⟩ := bind_some h
   obtain ⟨ad19, cs19, hr19, hc19, hR⟩ := reads_index (Mo := []) tsl29 hf14_1 hx19
   obtain rfl := hR
   refine x_indexAddr (xv := .slice a0_14 (x13.1).length c0_14) (yv := Vi t27__s27_l17) (.pointer (some ad19)) rfl rfl rfl rfl hr19 ?_
   refine x_load (xv := .pointer (some ad19)) (Vs x19) rfl rfl rfl (reads_cell0 tcell9 hc19 (fun _ h => by cases h)) ?_
   refine x_pure 2 [(7, Vi t27__s27_l17), (8, Vs x19)] _ _ _ (by kernel_rfl) ?_
   refine x_ek ?_
   refine c_join (σ := Unit) (fun s => match s with | _ => [(4, Vs v_s_s4_j8), (5, .slice a0_14 (x13.1).length c0_14), (6, Vi x13.2), (8, Vs x19), (25, .slice a0_14 (x13.1).length c0_14), (26, Vi ((x13.1).length : Int)), (27, Vi t27__s27_l17)]) (fun s w' => match s with | _ => law02_WagonnumberRepairs_J21 v_s_s4_j8 t27__s27_l17 x19 = some t17 ∧ Ev [] w w' ∧ MS w' [M] ∧ FR w.heap.size [] ∧ SlR eStr w' (fl [M]) a0_14 c0_14 x13.1) ?_ ?_
   · refine c_sp ?_
     refine x_pure 1 [(32, Vs x19)] _ _ _ (by kernel_rfl) ?_
     refine x_len (vs := [Vs x19]) (Vi (x19.length : Int)) rfl rfl rfl (reads_slen tstr9 _) ?_
     refine x_pure 2 [(34, .bool ((x19.length : Int) != 12)), (35, .bool ((x19.length : Int) != 12))] _ _ _ (by kernel_rfl) ?_
     refine x_split 35 ((x19.length : Int) != 12) rfl (fun hb => ?_) (fun hb => ?_)
     · replace h := ite_t hb h
       refine x_pure 22 [(36, undef), (37, undef), (38, undef), (39, .bool true), (40, .bool true), (41, undef), (42, undef), (43, undef), (44, .bool true), (45, .bool true), (46, undef), (47, undef), (48, undef), (49, undef), (50, undef), (51, undef), (52, undef), (53, undef), (54, undef), (55, undef), (56, undef), (57, .bool true)] _ _ _ (by kernel_rfl) ?_
       refine x_ek ?_
       refine c_norm [(4, Vs v_s_s4_j8), (5, .slice a0_14 (x13.1).length c0_14), (6, Vi x13.2), (8, Vs x19), (25, .slice a0_14 (x13.1).length c0_14), (26, Vi ((x13.1).length : Int)), (27, Vi t27__s27_l17), (57, .bool true)] ⟨rfl, rfl, rfl, rfl, rfl, rfl, rfl, rfl, trivial⟩ (fun J => ?_)
       refine c_true rfl ?_
       refine c_sp ?_
       refine x_pure 1 [(2, .bool false)] _ _ _ (by kernel_rfl) ?_
       refine x_ek ?_
       refine c_ret ?_
       refine k_then_ret ?_
       refine k_block_ret ?_
       refine k_then_ret ?_
       have hx := some_inj h
       subst hx
       have hy := some_inj hn17
       subst hy
       replace h := h17
       refine k_then_ret ?_
       refine k_block_ret ?_
       refine k_then_ret ?_
       refine r_ret (r_vals [.bool false] ⟨rfl, trivial⟩ ?_)
       have hx := some_inj h
       subst hx
       have hmr : MS wl17 [M] := hms.pick [some 0] _ rfl
       have hsu : ∀ x ∈ fl [M], x ∈ fl [M] := pick_sub [some 0] _ rfl
       exact ⟨rfl, hev⟩
     replace h := ite_f hb h
     refine x_pure 1 [(36, Vs x19)] _ _ _ (by kernel_rfl) ?_
     obtain ⟨x22, hx, h⟩ := bind_some h
     have hcall := wagonnumber_Valid_w x19 _ wl17 hx
     refine x_call 11 #[] #[] [Vs x19] _ rfl rfl rfl rfl hcall ?_
     rintro v w23 ⟨rfl, he23⟩
     clear hcall hx
     refine inl1 ?_
     have hst := Stp.ext (ls := [M]) he23
     replace hf14_1 := hf14_1.step hst
     replace hms := hms.ev he23
     replace hev := hev.ext he23
     refine x_pure 3 [(38, .bool (x22 != 0)), (39, .bool (x22 != 0)), (40, .bool (x22 != 0))] _ _ _ (by kernel_rfl) ?_
     refine x_split 40 (x22 != 0) rfl (fun hb => ?_) (fun hb => ?_)
     · replace h := ite_t hb h
       refine x_pure 17 [(41, undef), (42, undef), (43, undef), (44, .bool true), (45, .bool true), (46, undef), (47, undef), (48, undef), (49, undef), (50, undef), (51, undef), (52, undef), (53, undef), (54, undef), (55, undef), (56, undef), (57, .bool true)] _ _ _ (by kernel_rfl) ?_
       refine x_ek ?_
       refine c_norm [(4, Vs v_s_s4_j8), (5, .slice a0_14 (x13.1).length c0_14), (6, Vi x13.2), (8, Vs x19), (25, .slice a0_14 (x13.1).length c0_14), (26, Vi ((x13.1).length : Int)), (27, Vi t27__s27_l17), (57, .bool true)] ⟨rfl, rfl, rfl, rfl, rfl, rfl, rfl, rfl, trivial⟩ (fun J => ?_)
       refine c_true rfl ?_
       refine c_sp ?_
       refine x_pure 1 [(2, .bool false)] _ _ _ (by kernel_rfl) ?_
       refine x_ek ?_
       refine c_ret ?_
       refine k_then_ret ?_
       refine k_block_ret ?_
       refine k_then_ret ?_
       have hx := some_inj h
       subst hx
       have hy := some_inj hn17
       subst hy
       replace h := h17
       refine k_then_ret ?_
       refine k_block_ret ?_
       refine k_then_ret ?_
       refine r_ret (r_vals [.bool false] ⟨rfl, trivial⟩ ?_)
       have hx := some_inj h
       subst hx
       have hmr : MS w23 [M] := hms.pick [some 0] _ rfl
       have hsu : ∀ x ∈ fl [M], x ∈ fl [M] := pick_sub [some 0] _ rfl
       exact ⟨rfl, hev⟩
     replace h := ite_f hb h
     refine x_pure 2 [(41, Vs x19), (42, Vs v_s_s4_j8)] _ _ _ (by kernel_rfl) ?_
     refine x_binop (.bool (x19 == v_s_s4_j8)) (Vs x19) (Vs v_s_s4_j8) rfl rfl rfl rfl (bin_seq) ?_
     refine x_pure 2 [(44, .bool (x19 == v_s_s4_j8)), (45, .bool (x19 == v_s_s4_j8))] _ _ _ (by kernel_rfl) ?_
     refine x_split 45 (x19 == v_s_s4_j8) rfl (fun hb => ?_) (fun hb => ?_)
     · replace h := ite_t hb h
       refine x_pure 12 [(46, undef), (47, undef), (48, undef), (49, undef), (50, undef), (51, undef), (52, undef), (53, undef), (54, undef), (55, undef), (56, undef), (57, .bool true)] _ _ _ (by kernel_rfl) ?_
       refine x_ek ?_
       refine c_norm [(4, Vs v_s_s4_j8), (5, .slice a0_14 (x13.1).length c0_14), (6, Vi x13.2), (8, Vs x19), (25, .slice a0_14 (x13.1).length c0_14), (26, Vi ((x13.1).length : Int)), (27, Vi t27__s27_l17), (57, .bool true)] ⟨rfl, rfl, rfl, rfl, rfl, rfl, rfl, rfl, trivial⟩ (fun J => ?_)
       refine c_true rfl ?_
       refine c_sp ?_
       refine x_pure 1 [(2, .bool false)] _ _ _ (by kernel_rfl) ?_
       refine x_ek ?_
       refine c_ret ?_
       refine k_then_ret ?_
       refine k_block_ret ?_
       refine k_then_ret ?_
       have hx := some_inj h
       subst hx
       have hy := some_inj hn17
       subst hy
       replace h := h17
       refine k_then_ret ?_
       refine k_block_ret ?_
       refine k_then_ret ?_
       refine r_ret (r_vals [.bool false] ⟨rfl, trivial⟩ ?_)
       have hx := some_inj h
       subst hx
       have hmr : MS w23 [M] := hms.pick [some 0] _ rfl
       have hsu : ∀ x ∈ fl [M], x ∈ fl [M] := pick_sub [some 0] _ rfl
       exact ⟨rfl, hev⟩
     replace h := ite_f hb h
     refine x_pure 3 [(46, Vi t27__s27_l17), (47, .bool (decide (t27__s27_l17 > 0))), (48, .bool (decide (t27__s27_l17 > 0)))] _ _ _ (by kernel_rfl) ?_
     refine x_split 48 (decide (t27__s27_l17 > 0)) rfl (fun hb => ?_) (fun hb => ?_)
     · replace h := ite_t hb h
       refine x_pure 3 [(49, .slice a0_14 (x13.1).length c0_14), (50, Vi t27__s27_l17), (51, Vi (IntKind.i64.wrap (t27__s27_l17 - 1)))] _ _ _ (by kernel_rfl) ?_
       obtain ⟨x24, hx24, h⟩ := bind_some h
       obtain ⟨ad24, cs24, hr24, hc24, hR⟩ := reads_index (Mo := []) tsl29 hf14_1 hx24
       obtain rfl := hR
       refine x_indexAddr (xv := .slice a0_14 (x13.1).length c0_14) (yv := Vi (IntKind.i64.wrap (t27__s27_l17 - 1))) (.pointer (some ad24)) rfl rfl rfl rfl hr24 ?_
       refine x_load (xv := .pointer (some ad24)) (Vs x24) rfl rfl rfl (reads_cell0 tcell9 hc24 (fun _ h => by cases h)) ?_
       refine x_pure 1 [(54, Vs x19)] _ _ _ (by kernel_rfl) ?_
       refine x_binop (.bool (!sLt x24 x19)) (Vs x24) (Vs x19) rfl rfl rfl rfl (bin_sge) ?_
       refine x_pure 2 [(56, .bool (!sLt x24 x19)), (57, .bool (!sLt x24 x19))] _ _ _ (by kernel_rfl) ?_
       refine x_ek ?_
       refine c_norm [(4, Vs v_s_s4_j8), (5, .slice a0_14 (x13.1).length c0_14), (6, Vi x13.2), (8, Vs x19), (25, .slice a0_14 (x13.1).length c0_14), (26, Vi ((x13.1).length : Int)), (27, Vi t27__s27_l17), (57, .bool (!sLt x24 x19))] ⟨rfl, rfl, rfl, rfl, rfl, rfl, rfl, rfl, trivial⟩ (fun J => ?_)
       refine c_cond (!sLt x24 x19) rfl (fun hb => ?_) (fun hb => ?_)
       · replace h := ite_t hb h
         refine c_sp ?_
         refine x_pure 1 [(2, .bool false)] _ _ _ (by kernel_rfl) ?_
         refine x_ek ?_
         refine c_ret ?_
         refine k_then_ret ?_
         refine k_block_ret ?_
         refine k_then_ret ?_
         have hx := some_inj h
         subst hx
         have hy := some_inj hn17
         subst hy
         replace h := h17
         refine k_then_ret ?_
         refine k_block_ret ?_
         refine k_then_ret ?_
         refine r_ret (r_vals [.bool false] ⟨rfl, trivial⟩ ?_)
         have hx := some_inj h
         subst hx
         have hmr : MS w23 [M] := hms.pick [some 0] _ rfl
         have hsu : ∀ x ∈ fl [M], x ∈ fl [M] := pick_sub [some 0] _ rfl
         exact ⟨rfl, hev⟩
       replace h := ite_f hb h
       refine c_skip ?_
       exact k_then ⟨(), ⟨rfl, rfl, rfl, rfl, rfl, rfl, rfl, trivial⟩, h, hev, hms, hfr, hf14_1⟩
     replace h := ite_f hb h
     refine x_pure 9 [(49, undef), (50, undef), (51, undef), (52, undef), (53, undef), (54, undef), (55, undef), (56, .bool false), (57, .bool false)] _ _ _ (by kernel_rfl) ?_
     refine x_ek ?_
     refine c_norm [(4, Vs v_s_s4_j8), (5, .slice a0_14 (x13.1).length c0_14), (6, Vi x13.2), (8, Vs x19), (25, .slice a0_14 (x13.1).length c0_14), (26, Vi ((x13.1).length : Int)), (27, Vi t27__s27_l17), (57, .bool false)] ⟨rfl, rfl, rfl, rfl, rfl, rfl, rfl, rfl, trivial⟩ (fun J => ?_)
     refine c_false rfl ?_
     refine c_skip ?_
     exact k_then ⟨(), ⟨rfl, rfl, rfl, rfl, rfl, rfl, rfl, trivial⟩, h, hev, hms, hfr, hf14_1⟩
   rintro _ J wj21 ⟨h, hev, hms, hfr, hf14_1⟩
   refine c_sp ?_
   refine x_pure 1 [(9, .slice none 0 0)] _ _ _ (by kernel_rfl) ?_
   refine x_ek ?_
   refine c_norm [(4, Vs v_s_s4_j8), (5, .slice a0_14 (x13.1).length c0_14), (6, Vi x13.2), (8, Vs x19), (9, .slice none 0 0), (25, .slice a0_14 (x13.1).length c0_14), (26, Vi ((x13.1).length : Int)), (27, Vi t27__s27_l17)] ⟨rfl, rfl, rfl, rfl, rfl, rfl, rfl, rfl, trivial⟩ (fun J => ?_)
   refine c_seq ?_
   refine c_sp ?_
   refine x_pure 1 [(10, Vi 0)] _ _ _ (by kernel_rfl) ?_
   refine x_ek ?_
   refine c_block ?_
   have hst := Stp.push (ls := [M]) (l := blk none) (Ev.refl [] wj21) (fun _ h => by cases h) (fun _ h => by cases h)
   replace hf14_1 := hf14_1.step hst
   replace hms := hms.push (l := blk none) (Ev.refl [] _) (fun _ h => by cases h)
   replace hfr := hfr.push (l := blk none) (fun _ h => by cases h)
   have ho28 := OwnS.nil (eInt .i64) 3 wj21 (fl [blk none, M])
   obtain ⟨d27, hd27, h27⟩ := bind_some h
   obtain ⟨m27, hd27⟩ := loop_some hd27
   refine c_loop (loop_rule hmx (σ := Nat × (List Int) × Int × Option Addr × Nat) (fun s => match s with | (_, d29_l27, j_s10_l27, a29_l27, c29_l27) => [(4, Vs v_s_s4_j8), (5, .slice a0_14 (x13.1).length c0_14), (6, Vi x13.2), (8, Vs x19), (9, .slice a29_l27 (d29_l27).length c29_l27), (10, Vi j_s10_l27), (25, .slice a0_14 (x13.1).length c0_14), (26, Vi ((x13.1).length : Int)), (27, Vi t27__s27_l17)]) (fun s w' => match s with | (m, d29_l27, j_s10_l27, a29_l27, c29_l27) => loopN (law02_WagonnumberRepairs_L27 v_s_s4_j8 x19) m (d29_l27, j_s10_l27) = some d27 ∧ Ev [] w w' ∧ MS w' [blk a29_l27, M] ∧ FR w.heap.size [blk a29_l27] ∧ SlR eStr w' (fl [blk a29_l27, M]) a0_14 c0_14 x13.1 ∧ OwnS (eInt .i64) 3 w' (fl [blk a29_l27, M]) a29_l27 c29_l27 d29_l27) (fun s => s.1) (m27, ([] : List Int), 0, none, 0) ⟨rfl, rfl, rfl, rfl, rfl, rfl, rfl, rfl, rfl, trivial⟩ ⟨hd27, hev, hms, hfr, hf14_1, ho28⟩ ?_)
   rintro ⟨m27, d29_l27, j_s10_l27, a29_l27, c29_l27⟩ J wl27 ⟨hn27, hev, hms, hfr, hf14_1, hj29_l27⟩
   rcases m27 with _ | m27
   · exact (loopN_zero hn27).elim
   obtain ⟨t27, h, hn27⟩ := bind_some hn27
   refine c_seq ?_
   refine c_sp ?_
   refine x_pure 2 [(58, Vi j_s10_l27), (59, .bool (decide (j_s10_l27 < 12)))] _ _ _ (by kernel_rfl) ?_
   refine x_ek ?_
   refine c_norm [(4, Vs v_s_s4_j8), (5, .slice a0_14 (x13.1).length c0_14), (6, Vi x13.2), (8, Vs x19), (9, .slice a29_l27 (d29_l27).length c29_l27), (10, Vi j_s10_l27), (25, .slice a0_14 (x13.1).length c0_14), (26, Vi ((x13.1).length : Int)), (27, Vi t27__s27_l17), (59, .bool (decide (j_s10_l27 < 12)))] ⟨rfl, rfl, rfl, rfl, rfl, rfl, rfl, rfl, rfl, rfl, trivial⟩ (fun J => ?_)
   refine c_cond (decide (j_s10_l27 < 12)) rfl (fun hb => ?_) (fun hb => ?_)
   · replace h := ite_t hb h
     refine c_skip ?_
     refine k_then ?_
     refine c_seq ?_
     refine c_block ?_
     refine c_seq ?_
     refine c_drawn [] [(0, false), (1, false), (2, false), (3, false), (4, false), (5, false), (6, false)] _ (by kernel_rfl) rfl ?_
     have hst := Stp.ext (ls := [blk a29_l27, M]) (Ev.drew wl27)
     replace hf14_1 := hf14_1.step hst
     replace hj29_l27 := hj29_l27.step hst (Ev.drew wl27) nn2
     replace hms := hms.ev (Ev.drew wl27)
     replace hev := hev.ext (Ev.drew wl27)
     refine x_pure 2 [(62, Vs x19), (63, Vi j_s10_l27)] _ _ _ (by kernel_rfl) ?_
     obtain ⟨x33, hx33, h⟩ := bind_some h
     refine x_index (xv := Vs x19) (yv := Vi j_s10_l27) (.int .u8 x33) rfl rfl rfl rfl (reads_sindex tstr9 hx33) ?_
     refine x_pure 2 [(65, Vs v_s_s4_j8), (66, Vi j_s10_l27)] _ _ _ (by kernel_rfl) ?_
     obtain ⟨x34, hx34, h⟩ := bind_some h
     refine x_index (xv := Vs v_s_s4_j8) (yv := Vi j_s10_l27) (.int .u8 x34) rfl rfl rfl rfl (reads_sindex tstr9 hx34) ?_
     refine x_pure 1 [(68, .bool (x33 != x34))] _ _ _ (by kernel_rfl) ?_
     refine x_ek ?_
     refine c_cond (x33 != x34) rfl (fun hb => ?_) (fun hb => ?_)
     · replace h := ite_t hb h
       refine c_plain ?_
       refine x_pure 2 [(69, .slice a29_l27 (d29_l27).length c29_l27), (70, Vi j_s10_l27)] _ _ _ (by kernel_rfl) ?_
       refine x_buildSlice (vs := [(0, Vi j_s10_l27)]) #[Vi j_s10_l27] 3 rfl rfl rfl (by kernel_rfl) (fun b35 w35 hq35 hb35 he35 hz35 => ?_)
       refine inl1 ?_
       have hms0 := hms
       have hst := Stp.ext (ls := [blk a29_l27, M]) he35
       replace hf14_1 := hf14_1.step hst
       replace hj29_l27 := hj29_l27.step hst he35 nn2
       replace hms := hms.ev he35
       replace hev := hev.ext he35
       have hs35 : SlR (eInt .i64) w35 (fl [blk a29_l27, M]) (Ad b35 0) 1 ([j_s10_l27]) := ro_of_box hms0 hq35 hb35 rfl rfl (cells_at (cs := [Vi j_s10_l27]) (CellsOf.cons (c := [Vi j_s10_l27]) rfl CellsOf.nil))
       clear hb35 hms0
       have hg := guard_l h
       replace h := guard_r h
       obtain ⟨a37, c37, w37, hr37, he37, hn37, hm37, hw37⟩ := own_appendN tel22 22 hj29_l27 (mem_flat 0 rfl) hs35 hg
       refine x_builtin (vs := [.slice a29_l27 (d29_l27).length c29_l27, .slice (Ad b35 0) ([j_s10_l27]).length 1]) _ w37 rfl rfl rfl rfl (run_value _ _ _ _ hr37) ?_
       refine inl1 ?_
       have hst : Stp (fl [blk a29_l27, M]) w35 (fl [blk a37, M]) w37 := Stp.upd 0 he37 rfl (fun b hb => (hn37 b hb).1)
       replace hf14_1 := hf14_1.step hst
       replace hs35 := hs35.step hst
       replace hms : MS w37 [blk a37, M] := hms.upd 0 he37 rfl hn37
       have hfr2 : FR w.heap.size [blk a37] := hfr.upd 0 rfl hev.size (fun b hb => (hn37 b hb).1)
       replace hev := hev.then he37 (fun b hb => .inr (hfr.at 0 rfl b hb))
       replace hfr := hfr2
       clear hfr2
       replace hj29_l27 := hw37 (fl [blk a37, M]) hst.new
       clear hw37
       refine x_pure 1 [(9, .slice a37 ((d29_l27 ++ [j_s10_l27])).length c37)] _ _ _ (by kernel_rfl) ?_
       refine x_end rfl ?_
       refine k_block ?_
       refine k_then ?_
       refine c_norm [(4, Vs v_s_s4_j8), (5, .slice a0_14 (x13.1).length c0_14), (6, Vi x13.2), (8, Vs x19), (9, .slice a37 ((d29_l27 ++ [j_s10_l27])).length c37), (10, Vi j_s10_l27), (25, .slice a0_14 (x13.1).length c0_14), (26, Vi ((x13.1).length : Int)), (27, Vi t27__s27_l17)] ⟨rfl, rfl, rfl, rfl, rfl, rfl, rfl, rfl, rfl, trivial⟩ (fun J => ?_)
       refine c_plain ?_
       refine x_pure 3 [(60, Vi j_s10_l27), (61, Vi (IntKind.i64.wrap (j_s10_l27 + 1))), (10, Vi (IntKind.i64.wrap (j_s10_l27 + 1)))] _ _ _ (by kernel_rfl) ?_
       refine x_end rfl ?_
       have hx := some_inj h
       subst hx
       exact k_then ⟨(m27, (d29_l27 ++ [j_s10_l27]), IntKind.i64.wrap (j_s10_l27 + 1), a37, c37), ⟨rfl, rfl, rfl, rfl, rfl, rfl, rfl, rfl, rfl, trivial⟩, ⟨hn27, hev, hms, hfr, hf14_1, hj29_l27⟩, Nat.lt_succ_self _⟩
     replace h := ite_f hb h
     refine c_skip ?_
     refine k_block ?_
     refine k_then ?_
     refine c_plain ?_
     refine x_pure 3 [(60, Vi j_s10_l27), (61, Vi (IntKind.i64.wrap (j_s10_l27 + 1))), (10, Vi (IntKind.i64.wrap (j_s10_l27 + 1)))] _ _ _ (by kernel_rfl) ?_
     refine x_end rfl ?_
     have hx := some_inj h
     subst hx
     exact k_then ⟨(m27, d29_l27, IntKind.i64.wrap (j_s10_l27 + 1), a29_l27, c29_l27), ⟨rfl, rfl, rfl, rfl, rfl, rfl, rfl, rfl, rfl, trivial⟩, ⟨hn27, hev, hms, hfr, hf14_1, hj29_l27⟩, Nat.lt_succ_self _⟩
   replace h := ite_f hb h
   refine c_exit ?_
   refine k_then_exit ?_
   have hx := some_inj h
   subst hx
   have hy := some_inj hn27
   subst hy
   replace h := h27
   refine k_then_exit ?_
   refine k_block_in ?_
   refine k_then ?_
   refine c_norm [(4, Vs v_s_s4_j8), (5, .slice a0_14 (x13.1).length c0_14), (6, Vi x13.2), (8, Vs x19), (9, .slice a29_l27 (d29_l27).length c29_l27), (25, .slice a0_14 (x13.1).length c0_14), (26, Vi ((x13.1).length : Int)), (27, Vi t27__s27_l17)] ⟨rfl, rfl, rfl, rfl, rfl, rfl, rfl, rfl, trivial⟩ (fun J => ?_)
   refine c_seq ?_
   refine c_drawn [] [(0, false), (1, false), (2, false), (3, false), (4, false), (5, false), (6, false), (7, false), (8, false), (9, false), (10, false), (11, false), (12, false), (13, false), (14, false), (15, false), (16, false), (17, false), (18, false), (19, false), (20, false), (21, false), (22, false), (23, false), (24, false), (25, false), (26, false), (27, false), (28, false), (29, false), (30, false), (31, false), (32, false), (33, false), (34, false), (35, false), (36, false), (37, false), (38, false), (39, false), (40, false), (41, false), (42, false), (43, false), (44, false)] _ (by kernel_rfl) rfl ?_
   have hst := Stp.ext (ls := [blk a29_l27, M]) (Ev.drew wl27)
   replace hf14_1 := hf14_1.step hst
   replace hj29_l27 := hj29_l27.step hst (Ev.drew wl27) nn2
   replace hms := hms.ev (Ev.drew wl27)
   replace hev := hev.ext (Ev.drew wl27)
   refine x_pure 1 [(73, .slice a29_l27 (d29_l27).length c29_l27)] _ _ _ (by kernel_rfl) ?_
   refine x_len (vs := [.slice a29_l27 (d29_l27).length c29_l27]) (Vi ((d29_l27).length : Int)) rfl rfl rfl (reads_len tsl22 _ _ _ _ _) ?_
   refine x_pure 2 [(75, .bool (((d29_l27).length : Int) != 1)), (76, .bool (((d29_l27).length : Int) != 1))] _ _ _ (by kernel_rfl) ?_
   refine x_split 76 (((d29_l27).length : Int) != 1) rfl (fun hb => ?_) (fun hb => ?_)
   · replace h := ite_t hb h
     refine x_pure 1 [(77, .slice a29_l27 (d29_l27).length c29_l27)] _ _ _ (by kernel_rfl) ?_
     refine x_len (vs := [.slice a29_l27 (d29_l27).length c29_l27]) (Vi ((d29_l27).length : Int)) rfl rfl rfl (reads_len tsl22 _ _ _ _ _) ?_
     refine x_pure 2 [(79, .bool (((d29_l27).length : Int) == 2)), (80, .bool (((d29_l27).length : Int) == 2))] _ _ _ (by kernel_rfl) ?_
     refine x_split 80 (((d29_l27).length : Int) == 2) rfl (fun hb => ?_) (fun hb => ?_)
     · replace h := ite_t hb h
       refine x_pure 1 [(81, .slice a29_l27 (d29_l27).length c29_l27)] _ _ _ (by kernel_rfl) ?_
       obtain ⟨x38, hx38, h⟩ := bind_some h
       obtain ⟨g38, cs38, ha, hr38, hc38, hR⟩ := own_index (Mo := []) tsl22 hj29_l27 hx38
       subst ha
       obtain rfl := hR
       refine x_indexAddr (xv := .slice (Ad g38 0) (d29_l27).length c29_l27) (yv := Vi 1) (.pointer (some ⟨g38, (Int.toNat 1) * (eInt .i64).n, none⟩)) rfl rfl rfl rfl hr38 ?_
       refine x_load (xv := .pointer (some ⟨g38, (Int.toNat 1) * (eInt .i64).n, none⟩)) (Vi x38) rfl rfl rfl (reads_cell0 tcell3 hc38 (fun _ h => by cases h)) ?_
       refine x_pure 1 [(84, .slice (Ad g38 0) (d29_l27).length c29_l27)] _ _ _ (by kernel_rfl) ?_
       obtain ⟨x40, hx40, h⟩ := bind_some h
       obtain ⟨g40, cs40, ha, hr40, hc40, hR⟩ := own_index (Mo := []) tsl22 hj29_l27 hx40
       have hg : g38 = g40 := by cases ha; rfl
       subst hg
       obtain rfl := hR
       refine x_indexAddr (xv := .slice (Ad g38 0) (d29_l27).length c29_l27) (yv := Vi 0) (.pointer (some ⟨g38, (Int.toNat 0) * (eInt .i64).n, none⟩)) rfl rfl rfl rfl hr40 ?_
       refine x_load (xv := .pointer (some ⟨g38, (Int.toNat 0) * (eInt .i64).n, none⟩)) (Vi x40) rfl rfl rfl (reads_cell0 tcell3 hc40 (fun _ h => by cases h)) ?_
       refine x_pure 4 [(87, Vi (IntKind.i64.wrap (x40 + 1))), (88, .bool (x38 == (IntKind.i64.wrap (x40 + 1)))), (89, .bool (x38 == (IntKind.i64.wrap (x40 + 1)))), (90, .bool (x38 == (IntKind.i64.wrap (x40 + 1))))] _ _ _ (by kernel_rfl) ?_
       refine x_split 90 (x38 == (IntKind.i64.wrap (x40 + 1))) rfl (fun hb => ?_) (fun hb => ?_)
       · replace h := ite_t hb h
         refine x_pure 2 [(91, Vs x19), (92, .slice (Ad g38 0) (d29_l27).length c29_l27)] _ _ _ (by kernel_rfl) ?_
         obtain ⟨x42, hx42, h⟩ := bind_some h
         obtain ⟨g42, cs42, ha, hr42, hc42, hR⟩ := own_index (Mo := []) tsl22 hj29_l27 hx42
         have hg : g38 = g42 := by cases ha; rfl
         subst hg
         obtain rfl := hR
         refine x_indexAddr (xv := .slice (Ad g38 0) (d29_l27).length c29_l27) (yv := Vi 0) (.pointer (some ⟨g38, (Int.toNat 0) * (eInt .i64).n, none⟩)) rfl rfl rfl rfl hr42 ?_
         refine x_load (xv := .pointer (some ⟨g38, (Int.toNat 0) * (eInt .i64).n, none⟩)) (Vi x42) rfl rfl rfl (reads_cell0 tcell3 hc42 (fun _ h => by cases h)) ?_
         obtain ⟨x44, hx44, h⟩ := bind_some h
         refine x_index (xv := Vs x19) (yv := Vi x42) (.int .u8 x44) rfl rfl rfl rfl (reads_sindex tstr9 hx44) ?_
         refine x_pure 2 [(96, Vs v_s_s4_j8), (97, .slice (Ad g38 0) (d29_l27).length c29_l27)] _ _ _ (by kernel_rfl) ?_
         obtain ⟨x45, hx45, h⟩ := bind_some h
         obtain ⟨g45, cs45, ha, hr45, hc45, hR⟩ := own_index (Mo := []) tsl22 hj29_l27 hx45
         have hg : g38 = g45 := by cases ha; rfl
         subst hg
         obtain rfl := hR
         refine x_indexAddr (xv := .slice (Ad g38 0) (d29_l27).length c29_l27) (yv := Vi 1) (.pointer (some ⟨g38, (Int.toNat 1) * (eInt .i64).n, none⟩)) rfl rfl rfl rfl hr45 ?_
         refine x_load (xv := .pointer (some ⟨g38, (Int.toNat 1) * (eInt .i64).n, none⟩)) (Vi x45) rfl rfl rfl (reads_cell0 tcell3 hc45 (fun _ h => by cases h)) ?_
         obtain ⟨x47, hx47, h⟩ := bind_some h
         refine x_index (xv := Vs v_s_s4_j8) (yv := Vi x45) (.int .u8 x47) rfl rfl rfl rfl (reads_sindex tstr9 hx47) ?_
         refine x_pure 3 [(101, .bool (x44 == x47)), (102, .bool (x44 == x47)), (103, .bool (x44 == x47))] _ _ _ (by kernel_rfl) ?_
         refine x_split 103 (x44 == x47) rfl (fun hb => ?_) (fun hb => ?_)
         · replace h := ite_t hb h
           refine x_pure 2 [(104, Vs x19), (105, .slice (Ad g38 0) (d29_l27).length c29_l27)] _ _ _ (by kernel_rfl) ?_
           obtain ⟨x48, hx48, h⟩ := bind_some h
           obtain ⟨g48, cs48, ha, hr48, hc48, hR⟩ := own_index (Mo := []) tsl22 hj29_l27 hx48
           have hg : g38 = g48 := by cases ha; rfl
           subst hg
           obtain rfl := hR
           refine x_indexAddr (xv := .slice (Ad g38 0) (d29_l27).length c29_l27) (yv := Vi 1) (.pointer (some ⟨g38, (Int.toNat 1) * (eInt .i64).n, none⟩)) rfl rfl rfl rfl hr48 ?_
           refine x_load (xv := .pointer (some ⟨g38, (Int.toNat 1) * (eInt .i64).n, none⟩)) (Vi x48) rfl rfl rfl (reads_cell0 tcell3 hc48 (fun _ h => by cases h)) ?_
           obtain ⟨x50, hx50, h⟩ := bind_some h
           refine x_index (xv := Vs x19) (yv := Vi x48) (.int .u8 x50) rfl rfl rfl rfl (reads_sindex tstr9 hx50) ?_
           refine x_pure 2 [(109, Vs v_s_s4_j8), (110, .slice (Ad g38 0) (d29_l27).length c29_l27)] _ _ _ (by kernel_rfl) ?_
           obtain ⟨x51, hx51, h⟩ := bind_some h
           obtain ⟨g51, cs51, ha, hr51, hc51, hR⟩ := own_index (Mo := []) tsl22 hj29_l27 hx51
           have hg : g38 = g51 := by cases ha; rfl
           subst hg
           obtain rfl := hR
           refine x_indexAddr (xv := .slice (Ad g38 0) (d29_l27).length c29_l27) (yv := Vi 0) (.pointer (some ⟨g38, (Int.toNat 0) * (eInt .i64).n, none⟩)) rfl rfl rfl rfl hr51 ?_
           refine x_load (xv := .pointer (some ⟨g38, (Int.toNat 0) * (eInt .i64).n, none⟩)) (Vi x51) rfl rfl rfl (reads_cell0 tcell3 hc51 (fun _ h => by cases h)) ?_
           obtain ⟨x53, hx53, h⟩ := bind_some h
           refine x_index (xv := Vs v_s_s4_j8) (yv := Vi x51) (.int .u8 x53) rfl rfl rfl rfl (reads_sindex tstr9 hx53) ?_
           refine x_pure 4 [(114, .bool (x50 == x53)), (115, .bool (x50 == x53)), (116, .bool (!(x50 == x53))), (117, .bool (!(x50 == x53)))] _ _ _ (by kernel_rfl) ?_
           refine x_ek ?_
           refine c_norm [(4, Vs v_s_s4_j8), (5, .slice a0_14 (x13.1).length c0_14), (6, Vi x13.2), (25, .slice a0_14 (x13.1).length c0_14), (26, Vi ((x13.1).length : Int)), (27, Vi t27__s27_l17), (117, .bool (!(x50 == x53)))] ⟨rfl, rfl, rfl, rfl, rfl, rfl, rfl, trivial⟩ (fun J => ?_)
           refine c_cond (!(x50 == x53)) rfl (fun hb => ?_) (fun hb => ?_)
           · replace h := ite_t hb h
             refine c_sp ?_
             refine x_pure 1 [(2, .bool false)] _ _ _ (by kernel_rfl) ?_
             refine x_ek ?_
             refine c_ret ?_
             refine k_block_ret ?_
             refine k_then_ret ?_
             have hx := some_inj h
             subst hx
             have hy := some_inj hn17
             subst hy
             replace h := h17
             refine k_then_ret ?_
             refine k_block_ret ?_
             refine k_then_ret ?_
             refine r_ret (r_vals [.bool false] ⟨rfl, trivial⟩ ?_)
             have hx := some_inj h
             subst hx
             have hmr : MS (wl27).drew [M] := hms.pick [some 1] _ rfl
             have hsu : ∀ x ∈ fl [M], x ∈ fl [blk (Ad g38 0), M] := pick_sub [some 1] _ rfl
             exact ⟨rfl, hev⟩
           replace h := ite_f hb h
           refine c_skip ?_
           refine k_block ?_
           refine k_then ?_
           refine c_plain ?_
           refine x_pure 2 [(118, Vi (IntKind.i64.wrap (t27__s27_l17 + 1))), (27, Vi (IntKind.i64.wrap (t27__s27_l17 + 1)))] _ _ _ (by kernel_rfl) ?_
           refine x_end rfl ?_
           have hx := some_inj h
           subst hx
           have hpk : MS (wl27).drew [M] := hms.pick [some 1] _ rfl
           have hsu : ∀ x ∈ fl [M], x ∈ fl [blk (Ad g38 0), M] := pick_sub [some 1] _ rfl
           replace hf14_1 := hf14_1.sub hsu
           replace hms := hpk
           replace hfr : FR w.heap.size [] := hfr.pick [] _ rfl
           clear hpk hsu
           exact k_then ⟨(m17, IntKind.i64.wrap (t27__s27_l17 + 1)), ⟨rfl, rfl, rfl, rfl, rfl, rfl, trivial⟩, ⟨hn17, hev, hms, hfr, hf14_1⟩, Nat.lt_succ_self _⟩
         replace h := ite_f hb h
         refine x_pure 14 [(104, undef), (105, undef), (106, undef), (107, undef), (108, undef), (109, undef), (110, undef), (111, undef), (112, undef), (113, undef), (114, undef), (115, .bool false), (116, .bool true), (117, .bool true)] _ _ _ (by kernel_rfl) ?_
         refine x_ek ?_
         refine c_norm [(4, Vs v_s_s4_j8), (5, .slice a0_14 (x13.1).length c0_14), (6, Vi x13.2), (25, .slice a0_14 (x13.1).length c0_14), (26, Vi ((x13.1).length : Int)), (27, Vi t27__s27_l17), (117, .bool true)] ⟨rfl, rfl, rfl, rfl, rfl, rfl, rfl, trivial⟩ (fun J => ?_)
         refine c_true rfl ?_
         refine c_sp ?_
         refine x_pure 1 [(2, .bool false)] _ _ _ (by kernel_rfl) ?_
         refine x_ek ?_
         refine c_ret ?_
         refine k_block_ret ?_
         refine k_then_ret ?_
         have hx := some_inj h
         subst hx
         have hy := some_inj hn17
         subst hy
         replace h := h17
         refine k_then_ret ?_
         refine k_block_ret ?_
         refine k_then_ret ?_
         refine r_ret (r_vals [.bool false] ⟨rfl, trivial⟩ ?_)
         have hx := some_inj h
         subst hx
         have hmr : MS (wl27).drew [M] := hms.pick [some 1] _ rfl
         have hsu : ∀ x ∈ fl [M], x ∈ fl [blk (Ad g38 0), M] := pick_sub [some 1] _ rfl
         exact ⟨rfl, hev⟩
       replace h := ite_f hb h
       refine x_pure 27 [(91, undef), (92, undef), (93, undef), (94, undef), (95, undef), (96, undef), (97, undef), (98, undef), (99, undef), (100, undef), (101, undef), (102, .bool false), (103, .bool false), (104, undef), (105, undef), (106, undef), (107, undef), (108, undef), (109, undef), (110, undef), (111, undef), (112, undef), (113, undef), (114, undef), (115, .bool false), (116, .bool true), (117, .bool true)] _ _ _ (by kernel_rfl) ?_
       refine x_ek ?_
       refine c_norm [(4, Vs v_s_s4_j8), (5, .slice a0_14 (x13.1).length c0_14), (6, Vi x13.2), (25, .slice a0_14 (x13.1).length c0_14), (26, Vi ((x13.1).length : Int)), (27, Vi t27__s27_l17), (117, .bool true)] ⟨rfl, rfl, rfl, rfl, rfl, rfl, rfl, trivial⟩ (fun J => ?_)
       refine c_true rfl ?_
       refine c_sp ?_
       refine x_pure 1 [(2, .bool false)] _ _ _ (by kernel_rfl) ?_
       refine x_ek ?_
       refine c_ret ?_
       refine k_block_ret ?_
       refine k_then_ret ?_
       have hx := some_inj h
       subst hx
       have hy := some_inj hn17
       subst hy
       replace h := h17
       refine k_then_ret ?_
       refine k_block_ret ?_
       refine k_then_ret ?_
       refine r_ret (r_vals [.bool false] ⟨rfl, trivial⟩ ?_)
       have hx := some_inj h
       subst hx
       have hmr : MS (wl27).drew [M] := hms.pick [some 1] _ rfl
       have hsu : ∀ x ∈ fl [M], x ∈ fl [blk (Ad g38 0), M] := pick_sub [some 1] _ rfl
       exact ⟨rfl, hev⟩
     replace h := ite_f hb h
     refine x_pure 37 [(81, undef), (82, undef), (83, undef), (84, undef), (85, undef), (86, undef), (87, undef), (88, undef), (89, .bool false), (90, .bool false), (91, undef), (92, undef), (93, undef), (94, undef), (95, undef), (96, undef), (97, undef), (98, undef), (99, undef), (100, undef), (101, undef), (102, .bool false), (103, .bool false), (104, undef), (105, undef), (106, undef), (107, undef), (108, undef), (109, undef), (110, undef), (111, undef), (112, undef), (113, undef), (114, undef), (115, .bool false), (116, .bool true), (117, .bool true)] _ _ _ (by kernel_rfl) ?_
     refine x_ek ?_
     refine c_norm [(4, Vs v_s_s4_j8), (5, .slice a0_14 (x13.1).length c0_14), (6, Vi x13.2), (25, .slice a0_14 (x13.1).length c0_14), (26, Vi ((x13.1).length : Int)), (27, Vi t27__s27_l17), (117, .bool true)] ⟨rfl, rfl, rfl, rfl, rfl, rfl, rfl, trivial⟩ (fun J => ?_)
     refine c_true rfl ?_
     refine c_sp ?_
     refine x_pure 1 [(2, .bool false)] _ _ _ (by kernel_rfl) ?_
     refine x_ek ?_
     refine c_ret ?_
     refine k_block_ret ?_
     refine k_then_ret ?_
     have hx := some_inj h
     subst hx
     have hy := some_inj hn17
     subst hy
     replace h := h17
     refine k_then_ret ?_
     refine k_block_ret ?_
     refine k_then_ret ?_
     refine r_ret (r_vals [.bool false] ⟨rfl, trivial⟩ ?_)
     have hx := some_inj h
     subst hx
     have hmr : MS (wl27).drew [M] := hms.pick [some 1] _ rfl
     have hsu : ∀ x ∈ fl [M], x ∈ fl [blk a29_l27, M] := pick_sub [some 1] _ rfl
     exact ⟨rfl, hev⟩
   replace h := ite_f hb h
   refine x_pure 41 [(77, undef), (78, undef), (79, undef), (80, undef), (81, undef), (82, undef), (83, undef), (84, undef), (85, undef), (86, undef), (87, undef), (88, undef), (89, undef), (90, undef), (91, undef), (92, undef), (93, undef), (94, undef), (95, undef), (96, undef), (97, undef), (98, undef), (99, undef), (100, undef), (101, undef), (102, undef), (103, undef), (104, undef), (105, undef), (106, undef), (107, undef), (108, undef), (109, undef), (110, undef), (111, undef), (112, undef), (113, undef), (114, undef), (115, undef), (116, undef), (117, .bool false)] _ _ _ (by kernel_rfl) ?_
   refine x_ek ?_
   refine c_norm [(4, Vs v_s_s4_j8), (5, .slice a0_14 (x13.1).length c0_14), (6, Vi x13.2), (25, .slice a0_14 (x13.1).length c0_14), (26, Vi ((x13.1).length : Int)), (27, Vi t27__s27_l17), (117, .bool false)] ⟨rfl, rfl, rfl, rfl, rfl, rfl, rfl, trivial⟩ (fun J => ?_)
   refine c_false rfl ?_
   refine c_skip ?_
   refine k_block ?_
   refine k_then ?_
   refine c_plain ?_
   refine x_pure 2 [(118, Vi (IntKind.i64.wrap (t27__s27_l17 + 1))), (27, Vi (IntKind.i64.wrap (t27__s27_l17 + 1)))] _ _ _ (by kernel_rfl) ?_
   refine x_end rfl ?_
   have hx := some_inj h
   subst hx
   have hpk : MS (wl27).drew [M] := hms.pick [some 1] _ rfl
   have hsu : ∀ x ∈ fl [M], x ∈ fl [blk a29_l27, M] := pick_sub [some 1] _ rfl
   replace hf14_1 := hf14_1.sub hsu
   replace hms := hpk
   replace hfr : FR w.heap.size [] := hfr.pick [] _ rfl
   clear hpk hsu
   exact k_then ⟨(m17, IntKind.i64.wrap (t27__s27_l17 + 1)), ⟨rfl, rfl, rfl, rfl, rfl, rfl, trivial⟩, ⟨hn17, hev, hms, hfr, hf14_1⟩, Nat.lt_succ_self _⟩
 replace h := ite_f hb h
 refine c_exit ?_
 refine k_then_exit ?_
 have hx := some_inj h
 subst hx
 have hy := some_inj hn17
 subst hy
 replace h := h17
 refine k_then_exit ?_
 refine k_block_in ?_
 refine k_then ?_
 refine c_norm [(6, Vi x13.2)] ⟨rfl, trivial⟩ (fun J => ?_)
 refine c_sp ?_
 refine x_pure 3 [(119, Vi x13.2), (120, .bool (x13.2 == 0)), (121, .bool (x13.2 == 0))] _ _ _ (by kernel_rfl) ?_
 refine x_split 121 (x13.2 == 0) rfl (fun hb => ?_) (fun hb => ?_)
 · replace h := ite_t hb h
   obtain ⟨x54, hx, h⟩ := bind_some h
   have hcall := law02_sane_w _ wl17 hx
   refine x_call 13 #[] #[] [] _ rfl rfl rfl rfl hcall ?_
   rintro v w55 ⟨rfl, he55⟩
   clear hcall hx
   refine inl1 ?_
   replace hms := hms.ev he55
   replace hev := hev.ext he55
   refine x_pure 2 [(123, .bool x54), (2, .bool x54)] _ _ _ (by kernel_rfl) ?_
   refine x_ek ?_
   refine c_ret ?_
   refine r_ret (r_vals [.bool x54] ⟨rfl, trivial⟩ ?_)
   have hx := some_inj h
   subst hx
   have hmr : MS w55 [M] := hms.pick [some 0] _ rfl
   have hsu : ∀ x ∈ fl [M], x ∈ fl [M] := pick_sub [some 0] _ rfl
   exact ⟨rfl, hev⟩
 replace h := ite_f hb h
 refine x_pure 3 [(122, undef), (123, .bool false), (2, .bool false)] _ _ _ (by kernel_rfl) ?_
 refine x_ek ?_
 refine c_ret ?_
 refine r_ret (r_vals [.bool false] ⟨rfl, trivial⟩ ?_)
 have hx := some_inj h
 subst hx
 have hmr : MS wl17 [M] := hms.pick [some 0] _ rfl
 have hsu : ∀ x ∈ fl [M], x ∈ fl [M] := pick_sub [some 0] _ rfl
 exact ⟨rfl, hev⟩
end Go.Proofs.Yteimkmjnjnaifaa
