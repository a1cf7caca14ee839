
/- Walks, printed by program: each function returns what the partial function of the same name returns. Conditions: those of each theorem. -/
import Derived.Test.YtlejnkhaphlooaaGreatGT
import Derived.Test.YtlejnkhaphlooaaGreatGcertificate
import Derived.Test.YtlejnkhaphlooaaGreatGgen
import Derived.Test.YtlejnkhaphlooaaGreatGlaw17sane
import Derived.Test.YtlejnkhaphlooaaGreatGplanner
import Derived.Test.YtlejnkhaphlooaaGreatGrollin
set_option linter.unusedVariables false
set_option linter.unusedSimpArgs false
set_option maxRecDepth 4000
namespace Go.Proofs.YtlejnkhaphlooaaGreat
open Go Go.V Go.Proofs
def law17_PlannerBest_J42 (x9 : (List (Int × Int × Int × Int)) × Int) (t33__s33_l16 : Int) (x18 : Int × Int × Int × Int) (found_s6_j42 : Bool) : Option (Step (Bool × Int) (Unit ⊕ Bool)) :=
(if (decide (t33__s33_l16 > 0)) = true then
((idx x9.1 (IntKind.i64.wrap (t33__s33_l16 - 1))).bind fun x45 =>
(if (decide (x18.2.1 < x45.2.1)) = true then
some (.done (.inl ()))
else
((idx x9.1 (IntKind.i64.wrap (t33__s33_l16 - 1))).bind fun x47 =>
(if (x18.2.1 == x47.2.1) = true then
((idx x9.1 (IntKind.i64.wrap (t33__s33_l16 - 1))).bind fun x49 =>
(if (decide (x18.2.2.1 < x49.2.2.1)) = true then
some (.done (.inl ()))
else
((idx x9.1 (IntKind.i64.wrap (t33__s33_l16 - 1))).bind fun x51 =>
(if (x18.2.2.1 == x51.2.2.1) = true then
((idx x9.1 (IntKind.i64.wrap (t33__s33_l16 - 1))).bind fun x53 =>
(if (decide (x18.1 ≤ x53.1)) = true then
some (.done (.inl ()))
else
some (.next (found_s6_j42, IntKind.i64.wrap (t33__s33_l16 + 1)))))
else
some (.next (found_s6_j42, IntKind.i64.wrap (t33__s33_l16 + 1)))))))
else
some (.next (found_s6_j42, IntKind.i64.wrap (t33__s33_l16 + 1)))))))
else
some (.next (found_s6_j42, IntKind.i64.wrap (t33__s33_l16 + 1))))

def law17_PlannerBest_L16 (x6 : (List (Int × Int × Int × Int)) × Int) (x9 : (List (Int × Int × Int × Int)) × Int) (s : Bool × Int) : Option (Step (Bool × Int) (Unit ⊕ Bool)) :=
match s with
| (found_s6_l16, t33__s33_l16) =>
(if (decide (t33__s33_l16 < ((x9.1).length : Int))) = true then
((idx x9.1 t33__s33_l16).bind fun x18 =>
((certificate_Make x6.1 x18.1).bind fun x26 =>
((rollin_Run x6.1 x18.1 x26.1.1.1 x26.1.1.2).bind fun x33 =>
((rollin_Pushes x6.1 x18.1 x26.1.1.1 x26.1.1.2).bind fun x39 =>
(if (x26.2 != 0) = true then
some (.done (.inl ()))
else
(if (x33.2 != 0) = true then
some (.done (.inl ()))
else
(if (x39.2 != 0) = true then
some (.done (.inl ()))
else
(if (x26.1.1.1 != x18.2.1) = true then
some (.done (.inl ()))
else
(if (x33.1.2 != x18.2.2.1) = true then
some (.done (.inl ()))
else
(if (x39.1 != x18.2.2.2) = true then
some (.done (.inl ()))
else
(if found_s6_l16 = true then
law17_PlannerBest_J42 x9 t33__s33_l16 x18 true
else
(if (x18.1 == 12) = true then
((idx x9.1 0).bind fun x43 =>
law17_PlannerBest_J42 x9 t33__s33_l16 x18 (x18.2.1 == x43.2.1))
else
law17_PlannerBest_J42 x9 t33__s33_l16 x18 false))))))))))))
else
some (.done (.inr found_s6_l16)))

def law17_PlannerBest (p0 : List Int) : Option Bool :=
((gen_New p0).bind fun x2 =>
((gen_Maker_Items x2.1 x2.2 14).bind fun x6 =>
((planner_Schemes x6.1).bind fun x9 =>
(if (x9.2 != 0) = true then
(if (x9.2 == 15) = true then
((law17_sane).bind fun x13 =>
some x13)
else
some false)
else
((loop (law17_PlannerBest_L16 x6 x9) (false, 0)).bind fun d => match d with
| (.inl _) => some false
| (.inr found_s6_x1601) => (if found_s6_x1601 = true then
((law17_sane).bind fun x55 =>
some x55)
else
some false))))))

theorem law17_PlannerBest_w (a_p0 : Option Addr) (c_p0 : Nat) (p0 : List Int) (r : Bool) (w : World) (M : List Nat) (hms : MS w [M]) (hs_p0 : SlR (eInt .i64) w (fl [M]) a_p0 c_p0 p0) (h : law17_PlannerBest p0 = some r) : CallVC Tryz.prog 4 [Vl a_p0 p0 c_p0] w fun v w' => v = .bool r ∧ Ev [] w w' := by
 refine calls_vc hmx Tryz.func4 (by kernel_rfl) rfl (rs := [.tmp 2]) rfl (by kernel_rfl) (args := [Vl a_p0 p0 c_p0]) rfl ?_
 have hev : Ev [] w w := Ev.refl _ _
 refine c_sp (x_u 1 [(2, .bool false)] (x_ek (c_sp ?_)))
 refine x_u 1 [(16, Vl a_p0 p0 c_p0)] ?_
 obtain ⟨x2, hx, h⟩ := bind_some h
 have hpk : MS w ([] ++ [M]) := hms.pick [some 0] _ rfl
 have hsb0 : ∀ x ∈ fl ([] ++ [M]), x ∈ fl [M] := pick_sub [some 0] _ rfl
 have hsb : ∀ x ∈ fl ([] ++ [(fl [M])]), x ∈ fl [M] := fun x hx => hsb0 x (fl_unfold x hx)
 have hcall := gen_New_w a_p0 c_p0 p0 _ w (fl [M]) (MS.fold (P := []) hpk) (hs_p0.sub hsb) hx
 refine x_call 10 #[] #[] [Vl a_p0 p0 c_p0] _ rfl rfl rfl rfl hcall ?_
 rintro v w3 ⟨b0_3, a1_3, c1_3, rfl, he3, hmn3, hfn3, hf3_1, hf3_2⟩
 clear hcall hx
 refine inl1 ?_
 have hpk2 : MS w ([] ++ [M]) := hms.pick [some 0] _ rfl
 have hsn : ∀ x ∈ fl [[b0_3], M], x ∈ fl ([[b0_3]] ++ ([] ++ [M])) := pick_sub [some 0, some 1] _ rfl
 replace hms : MS w3 [[b0_3], M] := (MS.call (P := []) (R := [M]) (res := [[b0_3]]) (par := []) hpk2 he3 hmn3 hfn3 (NP.init _ _)).pick [some 0, some 1] _ rfl
 have hfr2 : FR w.heap.size [[b0_3]] := (FR.cons (fun b hb => Nat.le_trans hev.size (hfn3.at 0 rfl b hb)) (FR.nil _))
 replace hev := hev.ext he3
 replace hfr := hfr2
 clear hfr2
 have hsp : ∀ x ∈ fl [[b0_3], M], x ∈ fl ([[b0_3]] ++ ([] ++ [(fl [M])])) := fun x hx => fl_tot (res := [[b0_3]]) (par := []) (R := [M]) x (hsn x hx)
 replace hf3_2 := hf3_2.sub hsp
 clear hpk hsb hsb0 hpk2 hsn
 obtain ⟨x6, hx, h⟩ := bind_some h
 have hpk : MS w3 ([[b0_3]] ++ [M]) := hms.pick [some 0, some 1] _ rfl
 have hsb0 : ∀ x ∈ fl ([[b0_3]] ++ [M]), x ∈ fl [[b0_3], M] := pick_sub [some 0, some 1] _ rfl
 have hsb : ∀ x ∈ fl ([[b0_3]] ++ [(fl [M])]), x ∈ fl [[b0_3], M] := fun x hx => hsb0 x (fl_unfold x hx)
 have hcall := gen_Maker_Items_w b0_3 a1_3 c1_3 x2.1 x2.2 14 _ w3 (fl [M]) (hpk.fold (P := [[b0_3]])) (hf3_2.sub hsb) hf3_1 hx
 refine x_call 19 #[] #[] [Vp b0_3 0, Vi 14] _ rfl rfl rfl rfl hcall ?_
 rintro v w7 ⟨a0_7, c0_7, rfl, he7, hp7_0, hmn7, hfn7, hf7_1⟩
 clear hcall hx
 refine inl1 ?_
 have hpk2 : MS w3 ([[b0_3]] ++ [M]) := hms.pick [some 0, some 1] _ rfl
 replace hms : MS w7 [blk a0_7, [b0_3], M] := (MS.call (P := [[b0_3]]) (R := [M]) (res := [blk a0_7]) (par := [[b0_3]]) hpk2 he7 hmn7 hfn7 (NP.init _ _)).pick [some 0, some 1, some 2] _ rfl
 have hPf : ∀ b ∈ fl [[b0_3]], w.heap.size ≤ b := FR.mem (ls := [[b0_3]]) (hfr.pick [some 0] _ rfl)
 have hfr2 : FR w.heap.size [blk a0_7, [b0_3]] := (FR.cons (fun b hb => Nat.le_trans hev.size (hfn7.at 0 rfl b hb)) (FR.cons (hfr.at 0 rfl) (FR.nil _)))
 replace hev := hev.then he7 (fun b hb => .inr (hPf b hb))
 replace hfr := hfr2
 clear hfr2
 replace hf7_1 := OwnS.plain (M' := fl [blk a0_7, [b0_3], M]) (plain_prod (plain_int _) (plain_prod (plain_int _) (plain_prod (plain_int _) (plain_int _)))) hf7_1
 clear hpk hsb hsb0 hpk2
 have hpk : MS w7 [[b0_3], M] := hms.pick [some 1, some 2] _ rfl
 have hsu : ∀ x ∈ fl [[b0_3], M], x ∈ fl [blk a0_7, [b0_3], M] := pick_sub [some 1, some 2] _ rfl
 replace hf7_1 := hf7_1.ro hsu (pick_out hms 0 rfl [some 1, some 2] [[b0_3], M] rfl rfl)
 replace hms := hpk
 replace hfr : FR w.heap.size [[b0_3]] := hfr.pick [some 1] _ rfl
 clear hpk hsu
 refine x_u 1 [(3, Vl a0_7 x6.1 c0_7)] (x_ek (c_sp (x_u 1 [(20, Vl a0_7 x6.1 c0_7)] ?_)))
 obtain ⟨x9, hx, h⟩ := bind_some h
 have hpk : MS w7 ([] ++ [[b0_3], M]) := hms.pick [some 0, some 1] _ rfl
 have hsb0 : ∀ x ∈ fl ([] ++ [[b0_3], M]), x ∈ fl [[b0_3], M] := pick_sub [some 0, some 1] _ rfl
 have hsb : ∀ x ∈ fl ([] ++ [(fl [[b0_3], M])]), x ∈ fl [[b0_3], M] := fun x hx => hsb0 x (fl_unfold x hx)
 have hcall := planner_Schemes_w a0_7 c0_7 x6.1 _ w7 (fl [[b0_3], M]) (MS.fold (P := []) hpk) (hf7_1.sub hsb) hx
 refine x_call 20 #[] #[] [Vl a0_7 x6.1 c0_7] _ rfl rfl rfl rfl hcall ?_
 rintro v w10 ⟨a0_10, c0_10, rfl, he10, hmn10, hfn10, hf10_1⟩
 clear hcall hx
 refine inl1 ?_
 have hpk2 : MS w7 ([] ++ [[b0_3], M]) := hms.pick [some 0, some 1] _ rfl
 have hsb2 : ∀ x ∈ fl ([] ++ [[b0_3], M]), x ∈ fl [[b0_3], M] := pick_sub [some 0, some 1] _ rfl
 have hst0 := Stp.call (LS := [[b0_3], M]) (res := [blk a0_10]) (par := []) (R := [[b0_3], M]) he10 (fun b hb => hsb2 b (fl_left' (P := []) b hb)) hfn10 (NP.init _ _) (fun x hx => hsb2 x (fl_right' (P := []) x hx))
 have hsn : ∀ x ∈ fl [blk a0_10, [b0_3], M], x ∈ fl ([blk a0_10] ++ ([] ++ [[b0_3], M])) := pick_sub [some 0, some 1, some 2] _ rfl
 have hst := hst0.res hsn
 replace hf7_1 := hf7_1.step hst
 replace hms : MS w10 [blk a0_10, [b0_3], M] := (MS.call (P := []) (R := [[b0_3], M]) (res := [blk a0_10]) (par := []) hpk2 he10 hmn10 hfn10 (NP.init _ _)).pick [some 0, some 1, some 2] _ rfl
 have hfr2 : FR w.heap.size [blk a0_10, [b0_3]] := (FR.cons (fun b hb => Nat.le_trans hev.size (hfn10.at 0 rfl b hb)) (FR.cons (hfr.at 0 rfl) (FR.nil _)))
 replace hev := hev.ext he10
 replace hfr := hfr2
 clear hfr2
 replace hf10_1 := OwnS.plain (M' := fl [blk a0_10, [b0_3], M]) (plain_prod (plain_int _) (plain_prod (plain_int _) (plain_prod (plain_int _) (plain_int _)))) hf10_1
 clear hpk hsb hsb0 hpk2 hsb2 hst0 hsn hst
 have hpk : MS w10 [[b0_3], M] := hms.pick [some 1, some 2] _ rfl
 have hsu : ∀ x ∈ fl [[b0_3], M], x ∈ fl [blk a0_10, [b0_3], M] := pick_sub [some 1, some 2] _ rfl
 replace hf7_1 := hf7_1.sub hsu
 replace hf10_1 := hf10_1.ro hsu (pick_out hms 0 rfl [some 1, some 2] [[b0_3], M] rfl rfl)
 replace hms := hpk
 replace hfr : FR w.heap.size [[b0_3]] := hfr.pick [some 1] _ rfl
 clear hpk hsu
 refine x_u 5 [(19, .tuple #[Vl a0_10 x9.1 c0_10, Vi x9.2]), (22, Vl a0_10 x9.1 c0_10), (23, Vi x9.2), (4, Vl a0_10 x9.1 c0_10), (5, Vi x9.2)] (x_ek (c_seq (c_sp ?_)))
 refine x_u 2 [(24, Vi x9.2), (25, .bool (x9.2 != 0))] (x_ek (c_norm [(3, Vl a0_7 x6.1 c0_7), (4, Vl a0_10 x9.1 c0_10), (5, Vi x9.2), (25, .bool (x9.2 != 0))] ⟨rfl, rfl, rfl, rfl, trivial⟩ (fun J => ?_)))
 refine c_if (x9.2 != 0) rfl h (fun h => ?_) (fun h => ?_)
 · refine c_sp (x_u 3 [(26, Vi x9.2), (27, .bool (x9.2 == 15)), (28, .bool (x9.2 == 15))] (x_if 28 (x9.2 == 15) rfl h (fun h => ?_) (fun h => ?_)))
   · obtain ⟨x13, hx, h⟩ := bind_some h
     have hcall := law17_sane_w _ w10 hx
     refine x_call 18 #[] #[] [] _ rfl rfl rfl rfl hcall ?_
     rintro v w14 ⟨rfl, he14⟩
     clear hcall hx
     refine inl1 ?_
     replace hev := hev.ext he14
     refine x_u 2 [(30, .bool x13), (2, .bool x13)] (x_ek (c_ret (k_then_ret ?_)))
     refine r_ret (r_vals [.bool x13] ⟨rfl, trivial⟩ ?_)
     have hx := some_inj h
     subst hx
     exact ⟨rfl, hev⟩
   refine x_u 3 [(29, undef), (30, .bool false), (2, .bool false)] (x_ek (c_ret (k_then_ret ?_)))
   refine r_ret (r_vals [.bool false] ⟨rfl, trivial⟩ ?_)
   have hx := some_inj h
   subst hx
   exact ⟨rfl, hev⟩
 refine c_skip (k_then (c_sp (x_u 1 [(6, .bool false)] ?_)))
 refine x_ek (c_seq (c_sp (x_u 1 [(31, Vl a0_10 x9.1 c0_10)] ?_)))
 refine x_len (vs := [Vl a0_10 x9.1 c0_10]) (Vi ((x9.1).length : Int)) rfl rfl rfl (reads_len tsl44 _ _ _ _ _) (x_u 1 [(33, Vi 0)] (x_ek (c_block ?_)))
 have hpk : MS w10 [M] := hms.pick [some 1] _ rfl
 have hsu : ∀ x ∈ fl [M], x ∈ fl [[b0_3], M] := pick_sub [some 1] _ rfl
 replace hf7_1 := hf7_1.sub hsu
 replace hf10_1 := hf10_1.sub hsu
 replace hms := hpk
 replace hfr : FR w.heap.size [] := hfr.pick [] _ rfl
 clear hpk hsu
 obtain ⟨d16, hd16, h16⟩ := bind_some h
 obtain ⟨m16, hd16⟩ := loop_some hd16
 refine c_loop (loop_rule hmx (σ := Nat × Bool × Int) (fun s => match s with | (_, found_s6_l16, t33__s33_l16) => [(3, Vl a0_7 x6.1 c0_7), (4, Vl a0_10 x9.1 c0_10), (6, .bool found_s6_l16), (31, Vl a0_10 x9.1 c0_10), (32, Vi ((x9.1).length : Int)), (33, Vi t33__s33_l16)]) (fun s w' => match s with | (m, found_s6_l16, t33__s33_l16) => loopN (law17_PlannerBest_L16 x6 x9) m (found_s6_l16, t33__s33_l16) = some d16 ∧ Ev [] w w' ∧ MS w' [M] ∧ FR w.heap.size [] ∧ SlR (eIt4) w' (fl [M]) a0_7 c0_7 x6.1 ∧ SlR (eIt4) w' (fl [M]) a0_10 c0_10 x9.1) (fun s => s.1) (m16, false, 0) ⟨rfl, rfl, rfl, rfl, rfl, rfl, trivial⟩ ⟨hd16, hev, hms, hfr, hf7_1, hf10_1⟩ ?_)
 rintro ⟨m16, found_s6_l16, t33__s33_l16⟩ J wl16 ⟨hn16, hev, hms, hfr, hf7_1, hf10_1⟩
 rcases m16 with _ | m16
 · exact (loopN_zero hn16).elim
 obtain ⟨t16, h, hn16⟩ := bind_some hn16
 refine c_sp (x_u 1 [(34, .bool (decide (t33__s33_l16 < ((x9.1).length : Int))))] (x_ek (c_norm [(3, Vl a0_7 x6.1 c0_7), (4, Vl a0_10 x9.1 c0_10), (6, .bool found_s6_l16), (31, Vl a0_10 x9.1 c0_10), (32, Vi ((x9.1).length : Int)), (33, Vi t33__s33_l16), (34, .bool (decide (t33__s33_l16 < ((x9.1).length : Int))))] ⟨rfl, rfl, rfl, rfl, rfl, rfl, rfl, trivial⟩ (fun J => ?_))))
 refine c_seq (c_if (decide (t33__s33_l16 < ((x9.1).length : Int))) rfl h (fun h => ?_) (fun h => ?_))
 · refine c_skip (k_then (c_seq (c_block ?_)))
   refine c_sp (x_u 1 [(35, Vi t33__s33_l16)] ?_)
   obtain ⟨x18, hx18, h⟩ := bind_some h
   obtain ⟨ad18, cs18, hr18, hc18, hR⟩ := reads_index (Mo := []) tsl44 hf10_1 hx18
   obtain ⟨_, _, rfl, rfl, ⟨_, _, rfl, rfl, ⟨_, _, rfl, rfl, rfl⟩⟩⟩ := hR
   refine x_indexAddr (xv := Vl a0_10 x9.1 c0_10) (yv := Vi t33__s33_l16) (.pointer (some ad18)) rfl rfl rfl rfl hr18 (x_load (xv := .pointer (some ad18)) (.agg #[Vi x18.1, Vi x18.2.1, Vi x18.2.2.1, Vi x18.2.2.2]) rfl rfl rfl (reads_agg tagg48 hc18 (fun _ h => by cases h)) ?_)
   refine x_alloc (z := .agg #[Vi 0, Vi 0, Vi 0, Vi 0]) rfl rfl (by kernel_rfl) (fun b20 w20 hq20 hb20 he20 hz20 => ?_)
   replace hb20 : w20.heap[b20]? = some (.cells #[Vi 0, Vi 0, Vi 0, Vi 0] 48 (0, 0)) := hb20
   refine inl1 ?_
   have hst := Stp.box (ls := [M]) he20 hq20
   replace hf7_1 := hf7_1.step hst
   replace hf10_1 := hf10_1.step hst
   replace hms := hms.box he20 hq20 hb20
   replace hfr := hfr.box hev.size hq20
   replace hev := hev.ext he20
   refine x_u 1 [(7, Vi t33__s33_l16)] ?_
   obtain ⟨w22, hr22, hb22, he22⟩ := store_boxagg 0 [Vi x18.1, Vi x18.2.1, Vi x18.2.2.1, Vi x18.2.2.2] #[Vi x18.1, Vi x18.2.1, Vi x18.2.2.1, Vi x18.2.2.2] tagg48 hb20 rfl rfl rfl
   refine x_store w22 (xv := Vp b20 0) (yv := .agg #[Vi x18.1, Vi x18.2.1, Vi x18.2.2.1, Vi x18.2.2.2]) rfl rfl rfl rfl hr22 (inl1 ?_)
   have hst := Stp.ev' (ls := [[b20], M]) he22 (mem_flat 0 rfl)
   replace hf7_1 := hf7_1.step hst
   replace hf10_1 := hf10_1.step hst
   replace hms := hms.ev he22
   replace hev := hev.then he22 (fun b hb => .inr (hfr.at 0 rfl b hb))
   replace hb20 := hb22
   refine x_ek (c_sp (x_u 1 [(38, Vl a0_7 x6.1 c0_7)] (x_fieldAddr (xv := Vp b20 0) (Vp b20 0) rfl rfl rfl (reads_field tfld48_0 _ _) ?_)))
   refine x_load (xv := Vp b20 0) (Vi x18.1) rfl rfl rfl (reads_box tcell3 hb20 nn 0 _ rfl) (x_build (vs := [(0, Vl a0_7 x6.1 c0_7), (1, Vi x18.1)]) (.agg #[Vl a0_7 x6.1 c0_7, Vi x18.1]) rfl rfl rfl (fun _ _ => by kernel_rfl) ?_)
   refine x_alloc (z := .agg #[.slice none 0 0, Vi 0]) rfl rfl (by kernel_rfl) (fun b23 w23 hq23 hb23 he23 hz23 => ?_)
   replace hb23 : w23.heap[b23]? = some (.cells #[.slice none 0 0, Vi 0] 50 (0, 0)) := hb23
   refine inl1 ?_
   have hst := Stp.box (ls := [[b20], M]) he23 hq23
   replace hf7_1 := hf7_1.step hst
   replace hf10_1 := hf10_1.step hst
   replace hb20 := he23.box hb20 nn
   replace hms := hms.box he23 hq23 hb23
   replace hfr := hfr.box hev.size hq23
   replace hev := hev.ext he23
   obtain ⟨w25, hr25, hb25, he25⟩ := store_boxagg 0 [Vl a0_7 x6.1 c0_7, Vi x18.1] #[Vl a0_7 x6.1 c0_7, Vi x18.1] tagg50 hb23 rfl rfl rfl
   refine x_store w25 (xv := Vp b23 0) (yv := .agg #[Vl a0_7 x6.1 c0_7, Vi x18.1]) rfl rfl rfl rfl hr25 (inl1 ?_)
   have hst := Stp.ev' (ls := [[b23], [b20], M]) he25 (mem_flat 0 rfl)
   replace hf7_1 := hf7_1.step hst
   replace hf10_1 := hf10_1.step hst
   replace hb20 := he25.box hb20 (hms.apart 1 0 rfl rfl rfl _ mem1)
   replace hms := hms.ev he25
   replace hev := hev.then he25 (fun b hb => .inr (hfr.at 0 rfl b hb))
   replace hb23 := hb25
   refine x_ek (c_sp (x_load (xv := Vp b23 0) (.agg #[Vl a0_7 x6.1 c0_7, Vi x18.1]) rfl rfl rfl (reads_boxagg 0 [Vl a0_7 x6.1 c0_7, Vi x18.1] tagg50 hb23 nn rfl) ?_))
   obtain ⟨x26, hx, h⟩ := bind_some h
   have hpk : MS w25 ([] ++ [[b23], [b20], M]) := hms.pick [some 0, some 1, some 2] _ rfl
   have hsb0 : ∀ x ∈ fl ([] ++ [[b23], [b20], M]), x ∈ fl [[b23], [b20], M] := pick_sub [some 0, some 1, some 2] _ rfl
   have hsb : ∀ x ∈ fl ([] ++ [(fl [[b23], [b20], M])]), x ∈ fl [[b23], [b20], M] := fun x hx => hsb0 x (fl_unfold x hx)
   have hcall := certificate_Make_w a0_7 c0_7 x6.1 x18.1 _ w25 (fl [[b23], [b20], M]) (MS.fold (P := []) hpk) (hf7_1.sub hsb) hx
   refine x_call 21 #[] #[] [.agg #[Vl a0_7 x6.1 c0_7, Vi x18.1]] _ rfl rfl rfl rfl hcall ?_
   rintro v w27 ⟨a0_27, c0_27, a2_27, c2_27, rfl, he27, hmn27, hfn27, hf27_1, hf27_2⟩
   clear hcall hx
   refine inl1 ?_
   have hpk2 : MS w25 ([] ++ [[b23], [b20], M]) := hms.pick [some 0, some 1, some 2] _ rfl
   have hsb2 : ∀ x ∈ fl ([] ++ [[b23], [b20], M]), x ∈ fl [[b23], [b20], M] := pick_sub [some 0, some 1, some 2] _ rfl
   have hst0 := Stp.call (LS := [[b23], [b20], M]) (res := [blk a0_27, blk a2_27]) (par := []) (R := [[b23], [b20], M]) he27 (fun b hb => hsb2 b (fl_left' (P := []) b hb)) hfn27 (NP.init _ _) (fun x hx => hsb2 x (fl_right' (P := []) x hx))
   have hsn : ∀ x ∈ fl [blk a0_27, blk a2_27, [b23], [b20], M], x ∈ fl ([blk a0_27, blk a2_27] ++ ([] ++ [[b23], [b20], M])) := pick_sub [some 0, some 1, some 2, some 3, some 4] _ rfl
   have hst := hst0.res hsn
   replace hf7_1 := hf7_1.step hst
   replace hf10_1 := hf10_1.step hst
   replace hb20 := he27.box hb20 ((MS.outs (P := []) hpk2 1 rfl) _ mem1)
   replace hb23 := he27.box hb23 ((MS.outs (P := []) hpk2 0 rfl) _ mem1)
   replace hms : MS w27 [blk a0_27, blk a2_27, [b23], [b20], M] := (MS.call (P := []) (R := [[b23], [b20], M]) (res := [blk a0_27, blk a2_27]) (par := []) hpk2 he27 hmn27 hfn27 (NP.init _ _)).pick [some 0, some 1, some 2, some 3, some 4] _ rfl
   have hfr2 : FR w.heap.size [blk a0_27, blk a2_27, [b23], [b20]] := (FR.cons (fun b hb => Nat.le_trans hev.size (hfn27.at 0 rfl b hb)) (FR.cons (fun b hb => Nat.le_trans hev.size (hfn27.at 1 rfl b hb)) (FR.cons (hfr.at 0 rfl) (FR.cons (hfr.at 1 rfl) (FR.nil _)))))
   replace hev := hev.ext he27
   replace hfr := hfr2
   clear hfr2
   replace hf27_1 := OwnS.plain (M' := fl [blk a0_27, blk a2_27, [b23], [b20], M]) (plain_int _) hf27_1
   clear hpk hsb hsb0 hpk2 hsb2 hst0 hsn hst
   have hpk : MS w27 [blk a2_27, [b23], [b20], M] := hms.pick [some 1, some 2, some 3, some 4] _ rfl
   have hsu : ∀ x ∈ fl [blk a2_27, [b23], [b20], M], x ∈ fl [blk a0_27, blk a2_27, [b23], [b20], M] := pick_sub [some 1, some 2, some 3, some 4] _ rfl
   replace hf7_1 := hf7_1.sub hsu
   replace hf10_1 := hf10_1.sub hsu
   replace hf27_1 := hf27_1.ro hsu (pick_out hms 0 rfl [some 1, some 2, some 3, some 4] [blk a2_27, [b23], [b20], M] rfl rfl)
   replace hms := hpk
   replace hfr : FR w.heap.size [blk a2_27, [b23], [b20]] := hfr.pick [some 1, some 2, some 3] _ rfl
   clear hpk hsu
   have hpk : MS w27 [[b23], [b20], M] := hms.pick [some 1, some 2, some 3] _ rfl
   have hsu : ∀ x ∈ fl [[b23], [b20], M], x ∈ fl [blk a2_27, [b23], [b20], M] := pick_sub [some 1, some 2, some 3] _ rfl
   replace hf7_1 := hf7_1.sub hsu
   replace hf10_1 := hf10_1.sub hsu
   replace hf27_1 := hf27_1.sub hsu
   replace hms := hpk
   replace hfr : FR w.heap.size [[b23], [b20]] := hfr.pick [some 1, some 2] _ rfl
   clear hpk hsu
   refine x_u 3 [(42, .tuple #[.agg #[Vi x26.1.1.1, Vl a0_27 x26.1.1.2 c0_27, Vl a2_27 x26.1.2 c2_27], Vi x26.2]), (45, .agg #[Vi x26.1.1.1, Vl a0_27 x26.1.1.2 c0_27, Vl a2_27 x26.1.2 c2_27]), (46, Vi x26.2)] (x_alloc (z := .agg #[Vi 0, .slice none 0 0, .slice none 0 0]) rfl rfl (by kernel_rfl) (fun b30 w30 hq30 hb30 he30 hz30 => ?_))
   replace hb30 : w30.heap[b30]? = some (.cells #[Vi 0, .slice none 0 0, .slice none 0 0] 54 (0, 0)) := hb30
   refine inl1 ?_
   have hst := Stp.box (ls := [[b23], [b20], M]) he30 hq30
   replace hf7_1 := hf7_1.step hst
   replace hf10_1 := hf10_1.step hst
   replace hb20 := he30.box hb20 nn
   replace hb23 := he30.box hb23 nn
   replace hf27_1 := hf27_1.step hst
   replace hms := hms.box he30 hq30 hb30
   replace hfr := hfr.box hev.size hq30
   replace hev := hev.ext he30
   obtain ⟨w32, hr32, hb32, he32⟩ := store_boxagg 0 [Vi x26.1.1.1, Vl a0_27 x26.1.1.2 c0_27, Vl a2_27 x26.1.2 c2_27] #[Vi x26.1.1.1, Vl a0_27 x26.1.1.2 c0_27, Vl a2_27 x26.1.2 c2_27] tagg54 hb30 rfl rfl rfl
   refine x_store w32 (xv := Vp b30 0) (yv := .agg #[Vi x26.1.1.1, Vl a0_27 x26.1.1.2 c0_27, Vl a2_27 x26.1.2 c2_27]) rfl rfl rfl rfl hr32 (inl1 ?_)
   have hst := Stp.ev' (ls := [[b30], [b23], [b20], M]) he32 (mem_flat 0 rfl)
   replace hf7_1 := hf7_1.step hst
   replace hf10_1 := hf10_1.step hst
   replace hb20 := he32.box hb20 (hms.apart 2 0 rfl rfl rfl _ mem1)
   replace hb23 := he32.box hb23 (hms.apart 1 0 rfl rfl rfl _ mem1)
   replace hf27_1 := hf27_1.step hst
   replace hms := hms.ev he32
   replace hev := hev.then he32 (fun b hb => .inr (hfr.at 0 rfl b hb))
   replace hb30 := hb32
   refine x_u 1 [(11, Vi x26.2)] (x_ek (c_norm [(3, Vl a0_7 x6.1 c0_7), (4, Vl a0_10 x9.1 c0_10), (6, .bool found_s6_l16), (7, Vi t33__s33_l16), (8, Vp b20 0), (9, Vp b23 0), (10, Vp b30 0), (11, Vi x26.2), (31, Vl a0_10 x9.1 c0_10), (32, Vi ((x9.1).length : Int)), (33, Vi t33__s33_l16)] ⟨rfl, rfl, rfl, rfl, rfl, rfl, rfl, rfl, rfl, rfl, rfl, trivial⟩ (fun J => ?_)))
   refine c_sp (x_load (xv := Vp b23 0) (.agg #[Vl a0_7 x6.1 c0_7, Vi x18.1]) rfl rfl rfl (reads_boxagg 0 [Vl a0_7 x6.1 c0_7, Vi x18.1] tagg50 hb23 nn rfl) (x_fieldAddr (xv := Vp b30 0) (Vp b30 0) rfl rfl rfl (reads_field tfld54_0 _ _) (x_load (xv := Vp b30 0) (.agg #[Vi x26.1.1.1, Vl a0_27 x26.1.1.2 c0_27]) rfl rfl rfl (reads_boxagg 0 [Vi x26.1.1.1, Vl a0_27 x26.1.1.2 c0_27] tagg52 hb30 nn rfl) ?_)))
   obtain ⟨x33, hx, h⟩ := bind_some h
   have hpk : MS w32 ([] ++ [[b30], [b23], [b20], M]) := hms.pick [some 0, some 1, some 2, some 3] _ rfl
   have hsb0 : ∀ x ∈ fl ([] ++ [[b30], [b23], [b20], M]), x ∈ fl [[b30], [b23], [b20], M] := pick_sub [some 0, some 1, some 2, some 3] _ rfl
   have hsb : ∀ x ∈ fl ([] ++ [(fl [[b30], [b23], [b20], M])]), x ∈ fl [[b30], [b23], [b20], M] := fun x hx => hsb0 x (fl_unfold x hx)
   have hcall := rollin_Run_w a0_7 c0_7 x6.1 x18.1 x26.1.1.1 a0_27 c0_27 x26.1.1.2 _ w32 (fl [[b30], [b23], [b20], M]) (MS.fold (P := []) hpk) (hf7_1.sub hsb) (hf27_1.sub hsb) hx
   refine x_call 22 #[] #[] [.agg #[Vl a0_7 x6.1 c0_7, Vi x18.1], .agg #[Vi x26.1.1.1, Vl a0_27 x26.1.1.2 c0_27]] _ rfl rfl rfl rfl hcall ?_
   rintro v w34 ⟨a0_34, c0_34, B2_34, rfl, he34, hmn34, hfn34, hf34_1⟩
   clear hcall hx
   refine inl1 ?_
   have hpk2 : MS w32 ([] ++ [[b30], [b23], [b20], M]) := hms.pick [some 0, some 1, some 2, some 3] _ rfl
   have hsb2 : ∀ x ∈ fl ([] ++ [[b30], [b23], [b20], M]), x ∈ fl [[b30], [b23], [b20], M] := pick_sub [some 0, some 1, some 2, some 3] _ rfl
   have hst0 := Stp.call (LS := [[b30], [b23], [b20], M]) (res := [B2_34]) (par := []) (R := [[b30], [b23], [b20], M]) he34 (fun b hb => hsb2 b (fl_left' (P := []) b hb)) hfn34 (NP.init _ _) (fun x hx => hsb2 x (fl_right' (P := []) x hx))
   have hsn : ∀ x ∈ fl [B2_34, [b30], [b23], [b20], M], x ∈ fl ([B2_34] ++ ([] ++ [[b30], [b23], [b20], M])) := pick_sub [some 0, some 1, some 2, some 3, some 4] _ rfl
   have hst := hst0.res hsn
   replace hf7_1 := hf7_1.step hst
   replace hf10_1 := hf10_1.step hst
   replace hb20 := he34.box hb20 ((MS.outs (P := []) hpk2 2 rfl) _ mem1)
   replace hb23 := he34.box hb23 ((MS.outs (P := []) hpk2 1 rfl) _ mem1)
   replace hf27_1 := hf27_1.step hst
   replace hb30 := he34.box hb30 ((MS.outs (P := []) hpk2 0 rfl) _ mem1)
   replace hms : MS w34 [B2_34, [b30], [b23], [b20], M] := (MS.call (P := []) (R := [[b30], [b23], [b20], M]) (res := [B2_34]) (par := []) hpk2 he34 hmn34 hfn34 (NP.init _ _)).pick [some 0, some 1, some 2, some 3, some 4] _ rfl
   have hfr2 : FR w.heap.size [B2_34, [b30], [b23], [b20]] := (FR.cons (fun b hb => Nat.le_trans hev.size (hfn34.at 0 rfl b hb)) (FR.cons (hfr.at 0 rfl) (FR.cons (hfr.at 1 rfl) (FR.cons (hfr.at 2 rfl) (FR.nil _)))))
   replace hev := hev.ext he34
   replace hfr := hfr2
   clear hfr2
   clear hpk hsb hsb0 hpk2 hsb2 hst0 hsn hst
   have hpk : MS w34 [[b30], [b23], [b20], M] := hms.pick [some 1, some 2, some 3, some 4] _ rfl
   have hsu : ∀ x ∈ fl [[b30], [b23], [b20], M], x ∈ fl [B2_34, [b30], [b23], [b20], M] := pick_sub [some 1, some 2, some 3, some 4] _ rfl
   replace hf7_1 := hf7_1.sub hsu
   replace hf10_1 := hf10_1.sub hsu
   replace hf27_1 := hf27_1.sub hsu
   replace hms := hpk
   replace hfr : FR w.heap.size [[b30], [b23], [b20]] := hfr.pick [some 1, some 2, some 3] _ rfl
   clear hpk hsu
   refine x_u 3 [(47, .tuple #[.agg #[Vl a0_34 x33.1.1 c0_34, Vi x33.1.2], Vi x33.2]), (52, .agg #[Vl a0_34 x33.1.1 c0_34, Vi x33.1.2]), (53, Vi x33.2)] (x_alloc (z := .agg #[.slice none 0 0, Vi 0]) rfl rfl (by kernel_rfl) (fun b36 w36 hq36 hb36 he36 hz36 => ?_))
   replace hb36 : w36.heap[b36]? = some (.cells #[.slice none 0 0, Vi 0] 59 (0, 0)) := hb36
   refine inl1 ?_
   have hst := Stp.box (ls := [[b30], [b23], [b20], M]) he36 hq36
   replace hf7_1 := hf7_1.step hst
   replace hf10_1 := hf10_1.step hst
   replace hb20 := he36.box hb20 nn
   replace hb23 := he36.box hb23 nn
   replace hf27_1 := hf27_1.step hst
   replace hb30 := he36.box hb30 nn
   replace hms := hms.box he36 hq36 hb36
   replace hfr := hfr.box hev.size hq36
   replace hev := hev.ext he36
   obtain ⟨w38, hr38, hb38, he38⟩ := store_boxagg 0 [Vl a0_34 x33.1.1 c0_34, Vi x33.1.2] #[Vl a0_34 x33.1.1 c0_34, Vi x33.1.2] tagg59 hb36 rfl rfl rfl
   refine x_store w38 (xv := Vp b36 0) (yv := .agg #[Vl a0_34 x33.1.1 c0_34, Vi x33.1.2]) rfl rfl rfl rfl hr38 (inl1 ?_)
   have hst := Stp.ev' (ls := [[b36], [b30], [b23], [b20], M]) he38 (mem_flat 0 rfl)
   replace hf7_1 := hf7_1.step hst
   replace hf10_1 := hf10_1.step hst
   replace hb20 := he38.box hb20 (hms.apart 3 0 rfl rfl rfl _ mem1)
   replace hb23 := he38.box hb23 (hms.apart 2 0 rfl rfl rfl _ mem1)
   replace hf27_1 := hf27_1.step hst
   replace hb30 := he38.box hb30 (hms.apart 1 0 rfl rfl rfl _ mem1)
   replace hms := hms.ev he38
   replace hev := hev.then he38 (fun b hb => .inr (hfr.at 0 rfl b hb))
   replace hb36 := hb38
   refine x_u 1 [(13, Vi x33.2)] (x_ek (c_sp (x_load (xv := Vp b23 0) (.agg #[Vl a0_7 x6.1 c0_7, Vi x18.1]) rfl rfl rfl (reads_boxagg 0 [Vl a0_7 x6.1 c0_7, Vi x18.1] tagg50 hb23 nn rfl) ?_)))
   refine x_fieldAddr (xv := Vp b30 0) (Vp b30 0) rfl rfl rfl (reads_field tfld54_0 _ _) (x_load (xv := Vp b30 0) (.agg #[Vi x26.1.1.1, Vl a0_27 x26.1.1.2 c0_27]) rfl rfl rfl (reads_boxagg 0 [Vi x26.1.1.1, Vl a0_27 x26.1.1.2 c0_27] tagg52 hb30 nn rfl) ?_)
   obtain ⟨x39, hx, h⟩ := bind_some h
   have hpk : MS w38 ([] ++ [[b36], [b30], [b23], [b20], M]) := hms.pick [some 0, some 1, some 2, some 3, some 4] _ rfl
   have hsb0 : ∀ x ∈ fl ([] ++ [[b36], [b30], [b23], [b20], M]), x ∈ fl [[b36], [b30], [b23], [b20], M] := pick_sub [some 0, some 1, some 2, some 3, some 4] _ rfl
   have hsb : ∀ x ∈ fl ([] ++ [(fl [[b36], [b30], [b23], [b20], M])]), x ∈ fl [[b36], [b30], [b23], [b20], M] := fun x hx => hsb0 x (fl_unfold x hx)
   have hcall := rollin_Pushes_w a0_7 c0_7 x6.1 x18.1 x26.1.1.1 a0_27 c0_27 x26.1.1.2 _ w38 (fl [[b36], [b30], [b23], [b20], M]) (MS.fold (P := []) hpk) (hf7_1.sub hsb) (hf27_1.sub hsb) hx
   refine x_call 23 #[] #[] [.agg #[Vl a0_7 x6.1 c0_7, Vi x18.1], .agg #[Vi x26.1.1.1, Vl a0_27 x26.1.1.2 c0_27]] _ rfl rfl rfl rfl hcall ?_
   rintro v w40 ⟨rfl, he40⟩
   clear hcall hx
   refine inl1 ?_
   have hst := Stp.ext (ls := [[b36], [b30], [b23], [b20], M]) he40
   replace hf7_1 := hf7_1.step hst
   replace hf10_1 := hf10_1.step hst
   replace hb20 := he40.box hb20 nn
   replace hb30 := he40.box hb30 nn
   replace hb36 := he40.box hb36 nn
   replace hms := hms.ev he40
   replace hev := hev.ext he40
   clear hpk hsb hsb0
   refine x_u 5 [(54, .tuple #[Vi x39.1, Vi x39.2]), (59, Vi x39.1), (60, Vi x39.2), (14, Vi x39.1), (15, Vi x39.2)] (x_ek (c_norm [(3, Vl a0_7 x6.1 c0_7), (4, Vl a0_10 x9.1 c0_10), (6, .bool found_s6_l16), (7, Vi t33__s33_l16), (8, Vp b20 0), (10, Vp b30 0), (11, Vi x26.2), (12, Vp b36 0), (13, Vi x33.2), (14, Vi x39.1), (15, Vi x39.2), (31, Vl a0_10 x9.1 c0_10), (32, Vi ((x9.1).length : Int)), (33, Vi t33__s33_l16)] ⟨rfl, rfl, rfl, rfl, rfl, rfl, rfl, rfl, rfl, rfl, rfl, rfl, rfl, rfl, trivial⟩ (fun J => ?_)))
   refine c_seq (c_sp (x_u 3 [(61, Vi x26.2), (62, .bool (x26.2 != 0)), (63, .bool (x26.2 != 0))] (x_if 63 (x26.2 != 0) rfl h (fun h => ?_) (fun h => ?_))))
   · refine x_u 28 [(64, undef), (65, undef), (66, .bool true), (67, .bool true), (68, undef), (69, undef), (70, .bool true), (71, .bool true), (72, undef), (73, undef), (74, undef), (75, undef), (76, undef), (77, undef), (78, .bool true), (79, .bool true), (80, undef), (81, undef), (82, undef), (83, undef), (84, undef), (85, .bool true), (86, .bool true), (87, undef), (88, undef), (89, undef), (90, undef), (91, .bool true)] (x_ek (c_norm [(3, Vl a0_7 x6.1 c0_7), (4, Vl a0_10 x9.1 c0_10), (6, .bool found_s6_l16), (7, Vi t33__s33_l16), (8, Vp b20 0), (31, Vl a0_10 x9.1 c0_10), (32, Vi ((x9.1).length : Int)), (33, Vi t33__s33_l16), (91, .bool true)] ⟨rfl, rfl, rfl, rfl, rfl, rfl, rfl, rfl, rfl, trivial⟩ (fun J => ?_)))
     refine c_true rfl (c_sp (x_u 1 [(2, .bool false)] (x_ek ?_)))
     refine c_ret (k_then_ret (k_block_ret (k_then_ret ?_)))
     have hx := some_inj h
     subst hx
     have hy := some_inj hn16
     subst hy
     replace h := h16
     refine k_then_ret (k_block_ret (k_then_ret (r_ret (r_vals [.bool false] ⟨rfl, trivial⟩ ?_))))
     have hx := some_inj h
     subst hx
     exact ⟨rfl, hev⟩
   refine x_u 4 [(64, Vi x33.2), (65, .bool (x33.2 != 0)), (66, .bool (x33.2 != 0)), (67, .bool (x33.2 != 0))] (x_if 67 (x33.2 != 0) rfl h (fun h => ?_) (fun h => ?_))
   · refine x_u 24 [(68, undef), (69, undef), (70, .bool true), (71, .bool true), (72, undef), (73, undef), (74, undef), (75, undef), (76, undef), (77, undef), (78, .bool true), (79, .bool true), (80, undef), (81, undef), (82, undef), (83, undef), (84, undef), (85, .bool true), (86, .bool true), (87, undef), (88, undef), (89, undef), (90, undef), (91, .bool true)] (x_ek (c_norm [(3, Vl a0_7 x6.1 c0_7), (4, Vl a0_10 x9.1 c0_10), (6, .bool found_s6_l16), (7, Vi t33__s33_l16), (8, Vp b20 0), (31, Vl a0_10 x9.1 c0_10), (32, Vi ((x9.1).length : Int)), (33, Vi t33__s33_l16), (91, .bool true)] ⟨rfl, rfl, rfl, rfl, rfl, rfl, rfl, rfl, rfl, trivial⟩ (fun J => ?_)))
     refine c_true rfl (c_sp (x_u 1 [(2, .bool false)] (x_ek ?_)))
     refine c_ret (k_then_ret (k_block_ret (k_then_ret ?_)))
     have hx := some_inj h
     subst hx
     have hy := some_inj hn16
     subst hy
     replace h := h16
     refine k_then_ret (k_block_ret (k_then_ret (r_ret (r_vals [.bool false] ⟨rfl, trivial⟩ ?_))))
     have hx := some_inj h
     subst hx
     exact ⟨rfl, hev⟩
   refine x_u 4 [(68, Vi x39.2), (69, .bool (x39.2 != 0)), (70, .bool (x39.2 != 0)), (71, .bool (x39.2 != 0))] (x_if 71 (x39.2 != 0) rfl h (fun h => ?_) (fun h => ?_))
   · refine x_u 20 [(72, undef), (73, undef), (74, undef), (75, undef), (76, undef), (77, undef), (78, .bool true), (79, .bool true), (80, undef), (81, undef), (82, undef), (83, undef), (84, undef), (85, .bool true), (86, .bool true), (87, undef), (88, undef), (89, undef), (90, undef), (91, .bool true)] (x_ek (c_norm [(3, Vl a0_7 x6.1 c0_7), (4, Vl a0_10 x9.1 c0_10), (6, .bool found_s6_l16), (7, Vi t33__s33_l16), (8, Vp b20 0), (31, Vl a0_10 x9.1 c0_10), (32, Vi ((x9.1).length : Int)), (33, Vi t33__s33_l16), (91, .bool true)] ⟨rfl, rfl, rfl, rfl, rfl, rfl, rfl, rfl, rfl, trivial⟩ (fun J => ?_)))
     refine c_true rfl (c_sp (x_u 1 [(2, .bool false)] (x_ek ?_)))
     refine c_ret (k_then_ret (k_block_ret (k_then_ret ?_)))
     have hx := some_inj h
     subst hx
     have hy := some_inj hn16
     subst hy
     replace h := h16
     refine k_then_ret (k_block_ret (k_then_ret (r_ret (r_vals [.bool false] ⟨rfl, trivial⟩ ?_))))
     have hx := some_inj h
     subst hx
     exact ⟨rfl, hev⟩
   refine x_fieldAddr (xv := Vp b30 0) (Vp b30 0) rfl rfl rfl (reads_field tfld54_0 _ _) (x_fieldAddr (xv := Vp b30 0) (Vp b30 0) rfl rfl rfl (reads_field tfld52_0 _ _) (x_load (xv := Vp b30 0) (Vi x26.1.1.1) rfl rfl rfl (reads_box tcell3 hb30 nn 0 _ rfl) (x_fieldAddr (xv := Vp b20 0) (Vp b20 1) rfl rfl rfl (reads_field tfld48_1 _ _) ?_)))
   refine x_load (xv := Vp b20 1) (Vi x18.2.1) rfl rfl rfl (reads_box tcell3 hb20 nn 1 _ rfl) (x_u 3 [(77, .bool (x26.1.1.1 != x18.2.1)), (78, .bool (x26.1.1.1 != x18.2.1)), (79, .bool (x26.1.1.1 != x18.2.1))] (x_if 79 (x26.1.1.1 != x18.2.1) rfl h (fun h => ?_) (fun h => ?_)))
   · refine x_u 12 [(80, undef), (81, undef), (82, undef), (83, undef), (84, undef), (85, .bool true), (86, .bool true), (87, undef), (88, undef), (89, undef), (90, undef), (91, .bool true)] (x_ek (c_norm [(3, Vl a0_7 x6.1 c0_7), (4, Vl a0_10 x9.1 c0_10), (6, .bool found_s6_l16), (7, Vi t33__s33_l16), (8, Vp b20 0), (31, Vl a0_10 x9.1 c0_10), (32, Vi ((x9.1).length : Int)), (33, Vi t33__s33_l16), (91, .bool true)] ⟨rfl, rfl, rfl, rfl, rfl, rfl, rfl, rfl, rfl, trivial⟩ (fun J => ?_)))
     refine c_true rfl (c_sp (x_u 1 [(2, .bool false)] (x_ek ?_)))
     refine c_ret (k_then_ret (k_block_ret (k_then_ret ?_)))
     have hx := some_inj h
     subst hx
     have hy := some_inj hn16
     subst hy
     replace h := h16
     refine k_then_ret (k_block_ret (k_then_ret (r_ret (r_vals [.bool false] ⟨rfl, trivial⟩ ?_))))
     have hx := some_inj h
     subst hx
     exact ⟨rfl, hev⟩
   refine x_fieldAddr (xv := Vp b36 0) (Vp b36 1) rfl rfl rfl (reads_field tfld59_1 _ _) (x_load (xv := Vp b36 1) (Vi x33.1.2) rfl rfl rfl (reads_box tcell3 hb36 nn 1 _ rfl) (x_fieldAddr (xv := Vp b20 0) (Vp b20 2) rfl rfl rfl (reads_field tfld48_2 _ _) (x_load (xv := Vp b20 2) (Vi x18.2.2.1) rfl rfl rfl (reads_box tcell3 hb20 nn 2 _ rfl) ?_)))
   refine x_u 3 [(84, .bool (x33.1.2 != x18.2.2.1)), (85, .bool (x33.1.2 != x18.2.2.1)), (86, .bool (x33.1.2 != x18.2.2.1))] (x_if 86 (x33.1.2 != x18.2.2.1) rfl h (fun h => ?_) (fun h => ?_))
   · refine x_u 5 [(87, undef), (88, undef), (89, undef), (90, undef), (91, .bool true)] (x_ek (c_norm [(3, Vl a0_7 x6.1 c0_7), (4, Vl a0_10 x9.1 c0_10), (6, .bool found_s6_l16), (7, Vi t33__s33_l16), (8, Vp b20 0), (31, Vl a0_10 x9.1 c0_10), (32, Vi ((x9.1).length : Int)), (33, Vi t33__s33_l16), (91, .bool true)] ⟨rfl, rfl, rfl, rfl, rfl, rfl, rfl, rfl, rfl, trivial⟩ (fun J => ?_)))
     refine c_true rfl (c_sp (x_u 1 [(2, .bool false)] (x_ek ?_)))
     refine c_ret (k_then_ret (k_block_ret (k_then_ret ?_)))
     have hx := some_inj h
     subst hx
     have hy := some_inj hn16
     subst hy
     replace h := h16
     refine k_then_ret (k_block_ret (k_then_ret (r_ret (r_vals [.bool false] ⟨rfl, trivial⟩ ?_))))
     have hx := some_inj h
     subst hx
     exact ⟨rfl, hev⟩
   refine x_u 1 [(87, Vi x39.1)] (x_fieldAddr (xv := Vp b20 0) (Vp b20 3) rfl rfl rfl (reads_field tfld48_3 _ _) (x_load (xv := Vp b20 3) (Vi x18.2.2.2) rfl rfl rfl (reads_box tcell3 hb20 nn 3 _ rfl) (x_u 2 [(90, .bool (x39.1 != x18.2.2.2)), (91, .bool (x39.1 != x18.2.2.2))] ?_)))
   refine x_ek (c_norm [(3, Vl a0_7 x6.1 c0_7), (4, Vl a0_10 x9.1 c0_10), (6, .bool found_s6_l16), (7, Vi t33__s33_l16), (8, Vp b20 0), (31, Vl a0_10 x9.1 c0_10), (32, Vi ((x9.1).length : Int)), (33, Vi t33__s33_l16), (91, .bool (x39.1 != x18.2.2.2))] ⟨rfl, rfl, rfl, rfl, rfl, rfl, rfl, rfl, rfl, trivial⟩ (fun J => ?_))
   refine c_if (x39.1 != x18.2.2.2) rfl h (fun h => ?_) (fun h => ?_)
   · refine c_sp (x_u 1 [(2, .bool false)] (x_ek (c_ret ?_)))
     refine k_then_ret (k_block_ret (k_then_ret ?_))
     have hx := some_inj h
     subst hx
     have hy := some_inj hn16
     subst hy
     replace h := h16
     refine k_then_ret (k_block_ret (k_then_ret (r_ret (r_vals [.bool false] ⟨rfl, trivial⟩ ?_))))
     have hx := some_inj h
     subst hx
     exact ⟨rfl, hev⟩
   refine c_skip (k_then (c_join (σ := Bool) (fun s => match s with | found_s6_j42 => [(3, Vl a0_7 x6.1 c0_7), (4, Vl a0_10 x9.1 c0_10), (6, .bool found_s6_j42), (7, Vi t33__s33_l16), (8, Vp b20 0), (31, Vl a0_10 x9.1 c0_10), (32, Vi ((x9.1).length : Int)), (33, Vi t33__s33_l16)]) (fun s w' => match s with | found_s6_j42 => law17_PlannerBest_J42 x9 t33__s33_l16 x18 found_s6_j42 = some t16 ∧ Ev [] w w' ∧ MS w' [[b20], M] ∧ FR w.heap.size [[b20]] ∧ SlR (eIt4) w' (fl [[b20], M]) a0_7 c0_7 x6.1 ∧ SlR (eIt4) w' (fl [[b20], M]) a0_10 c0_10 x9.1 ∧ w'.heap[b20]? = some (.cells #[Vi x18.1, Vi x18.2.1, Vi x18.2.2.1, Vi x18.2.2.2] 48 (0, 0))) ?_ ?_))
   · refine c_drawn [] [(0, false), (1, false), (2, false), (3, false), (4, false), (5, false), (6, false), (7, false), (8, false), (9, false), (10, false), (11, false), (12, false), (13, false), (14, false), (15, false)] _ (by kernel_rfl) rfl ?_
     have hst := Stp.ext (ls := [[b36], [b30], [b23], [b20], M]) (Ev.drew w40)
     replace hf7_1 := hf7_1.step hst
     replace hf10_1 := hf10_1.step hst
     replace hb20 := (Ev.drew w40).box hb20 nn
     replace hms := hms.ev (Ev.drew w40)
     replace hev := hev.ext (Ev.drew w40)
     refine x_u 2 [(92, .bool found_s6_l16), (93, .bool found_s6_l16)] (x_if 93 found_s6_l16 rfl h (fun h => ?_) (fun h => ?_))
     · refine x_u 14 [(94, undef), (95, undef), (96, undef), (97, undef), (98, undef), (99, undef), (100, undef), (101, undef), (102, undef), (103, undef), (104, undef), (105, undef), (106, .bool true), (6, .bool true)] (x_end rfl ?_)
       have hpk : MS (w40).drew [[b20], M] := hms.pick [some 3, some 4] _ rfl
       have hsu : ∀ x ∈ fl [[b20], M], x ∈ fl [[b36], [b30], [b23], [b20], M] := pick_sub [some 3, some 4] _ rfl
       replace hf7_1 := hf7_1.sub hsu
       replace hf10_1 := hf10_1.sub hsu
       replace hms := hpk
       replace hfr : FR w.heap.size [[b20]] := hfr.pick [some 3] _ rfl
       clear hpk hsu
       exact k_then ⟨true, ⟨rfl, rfl, rfl, rfl, rfl, rfl, rfl, rfl, trivial⟩, h, hev, hms, hfr, hf7_1, hf10_1, hb20⟩
     refine x_fieldAddr (xv := Vp b20 0) (Vp b20 0) rfl rfl rfl (reads_field tfld48_0 _ _) (x_load (xv := Vp b20 0) (Vi x18.1) rfl rfl rfl (reads_box tcell3 hb20 nn 0 _ rfl) (x_u 2 [(96, .bool (x18.1 == 12)), (97, .bool (x18.1 == 12))] (x_if 97 (x18.1 == 12) rfl h (fun h => ?_) (fun h => ?_))))
     · refine x_fieldAddr (xv := Vp b20 0) (Vp b20 1) rfl rfl rfl (reads_field tfld48_1 _ _) (x_load (xv := Vp b20 1) (Vi x18.2.1) rfl rfl rfl (reads_box tcell3 hb20 nn 1 _ rfl) (x_u 1 [(100, Vl a0_10 x9.1 c0_10)] ?_))
       obtain ⟨x43, hx43, h⟩ := bind_some h
       obtain ⟨ad43, cs43, hr43, hc43, hR⟩ := reads_index (Mo := []) tsl44 hf10_1 hx43
       obtain ⟨_, _, rfl, rfl, ⟨_, _, rfl, rfl, ⟨_, _, rfl, rfl, rfl⟩⟩⟩ := hR
       refine x_indexAddr (xv := Vl a0_10 x9.1 c0_10) (yv := Vi 0) (.pointer (some ad43)) rfl rfl rfl rfl hr43 (x_fieldAddr (xv := .pointer (some ad43)) (.pointer (some (Addr.add ad43 1))) rfl rfl rfl (reads_field tfld48_1 _ _) (x_load (xv := .pointer (some (Addr.add ad43 1))) (Vi x43.2.1) rfl rfl rfl (reads_cell tcell3 hc43 (fun _ h => by cases h) 1 _ rfl) ?_))
       refine x_u 4 [(104, .bool (x18.2.1 == x43.2.1)), (105, .bool (x18.2.1 == x43.2.1)), (106, .bool (x18.2.1 == x43.2.1)), (6, .bool (x18.2.1 == x43.2.1))] (x_end rfl ?_)
       have hpk : MS (w40).drew [[b20], M] := hms.pick [some 3, some 4] _ rfl
       have hsu : ∀ x ∈ fl [[b20], M], x ∈ fl [[b36], [b30], [b23], [b20], M] := pick_sub [some 3, some 4] _ rfl
       replace hf7_1 := hf7_1.sub hsu
       replace hf10_1 := hf10_1.sub hsu
       replace hms := hpk
       replace hfr : FR w.heap.size [[b20]] := hfr.pick [some 3] _ rfl
       clear hpk hsu
       exact k_then ⟨x18.2.1 == x43.2.1, ⟨rfl, rfl, rfl, rfl, rfl, rfl, rfl, rfl, trivial⟩, h, hev, hms, hfr, hf7_1, hf10_1, hb20⟩
     refine x_u 10 [(98, undef), (99, undef), (100, undef), (101, undef), (102, undef), (103, undef), (104, undef), (105, .bool false), (106, .bool false), (6, .bool false)] (x_end rfl ?_)
     have hpk : MS (w40).drew [[b20], M] := hms.pick [some 3, some 4] _ rfl
     have hsu : ∀ x ∈ fl [[b20], M], x ∈ fl [[b36], [b30], [b23], [b20], M] := pick_sub [some 3, some 4] _ rfl
     replace hf7_1 := hf7_1.sub hsu
     replace hf10_1 := hf10_1.sub hsu
     replace hms := hpk
     replace hfr : FR w.heap.size [[b20]] := hfr.pick [some 3] _ rfl
     clear hpk hsu
     exact k_then ⟨false, ⟨rfl, rfl, rfl, rfl, rfl, rfl, rfl, rfl, trivial⟩, h, hev, hms, hfr, hf7_1, hf10_1, hb20⟩
   rintro found_s6_j42 J wj42 ⟨h, hev, hms, hfr, hf7_1, hf10_1, hb20⟩
   refine c_seq (c_drawn [] [(0, false), (1, false), (2, false), (3, false), (4, false), (5, false), (6, false), (7, false), (8, false), (9, false), (10, false), (11, false), (12, false), (13, false), (14, false), (15, false), (16, false), (17, false), (18, false), (19, false), (20, false), (21, false), (22, false), (23, false), (24, false), (25, false), (26, false), (27, false), (28, false), (29, false), (30, false), (31, false), (32, false), (33, false), (34, false), (35, false), (36, false), (37, false), (38, false), (39, false), (40, false), (41, false), (42, false), (43, false), (44, false), (45, false), (46, false), (47, false), (48, false), (49, false), (50, false), (51, false), (52, false), (53, false), (54, false), (55, false), (56, false)] _ (by kernel_rfl) rfl ?_)
   have hst := Stp.ext (ls := [[b20], M]) (Ev.drew wj42)
   replace hf7_1 := hf7_1.step hst
   replace hf10_1 := hf10_1.step hst
   replace hb20 := (Ev.drew wj42).box hb20 nn
   replace hms := hms.ev (Ev.drew wj42)
   replace hev := hev.ext (Ev.drew wj42)
   refine x_u 3 [(107, Vi t33__s33_l16), (108, .bool (decide (t33__s33_l16 > 0))), (109, .bool (decide (t33__s33_l16 > 0)))] (x_if 109 (decide (t33__s33_l16 > 0)) rfl h (fun h => ?_) (fun h => ?_))
   · refine x_fieldAddr (xv := Vp b20 0) (Vp b20 1) rfl rfl rfl (reads_field tfld48_1 _ _) (x_load (xv := Vp b20 1) (Vi x18.2.1) rfl rfl rfl (reads_box tcell3 hb20 nn 1 _ rfl) (x_u 3 [(112, Vl a0_10 x9.1 c0_10), (113, Vi t33__s33_l16), (114, Vi (IntKind.i64.wrap (t33__s33_l16 - 1)))] ?_))
     obtain ⟨x45, hx45, h⟩ := bind_some h
     obtain ⟨ad45, cs45, hr45, hc45, hR⟩ := reads_index (Mo := []) tsl44 hf10_1 hx45
     obtain ⟨_, _, rfl, rfl, ⟨_, _, rfl, rfl, ⟨_, _, rfl, rfl, rfl⟩⟩⟩ := hR
     refine x_indexAddr (xv := Vl a0_10 x9.1 c0_10) (yv := Vi (IntKind.i64.wrap (t33__s33_l16 - 1))) (.pointer (some ad45)) rfl rfl rfl rfl hr45 (x_fieldAddr (xv := .pointer (some ad45)) (.pointer (some (Addr.add ad45 1))) rfl rfl rfl (reads_field tfld48_1 _ _) (x_load (xv := .pointer (some (Addr.add ad45 1))) (Vi x45.2.1) rfl rfl rfl (reads_cell tcell3 hc45 (fun _ h => by cases h) 1 _ rfl) ?_))
     refine x_u 2 [(118, .bool (decide (x18.2.1 < x45.2.1))), (119, .bool (decide (x18.2.1 < x45.2.1)))] (x_if 119 (decide (x18.2.1 < x45.2.1)) rfl h (fun h => ?_) (fun h => ?_))
     · refine x_u 44 [(120, undef), (121, undef), (122, undef), (123, undef), (124, undef), (125, undef), (126, undef), (127, undef), (128, undef), (129, undef), (130, undef), (131, undef), (132, undef), (133, undef), (134, undef), (135, undef), (136, undef), (137, undef), (138, undef), (139, undef), (140, undef), (141, undef), (142, undef), (143, undef), (144, undef), (145, undef), (146, undef), (147, undef), (148, undef), (149, undef), (150, undef), (151, undef), (152, undef), (153, undef), (154, undef), (155, undef), (156, undef), (157, undef), (158, undef), (159, undef), (160, undef), (161, undef), (162, .bool true), (163, .bool true)] (x_ek (c_norm [(3, Vl a0_7 x6.1 c0_7), (4, Vl a0_10 x9.1 c0_10), (6, .bool found_s6_j42), (31, Vl a0_10 x9.1 c0_10), (32, Vi ((x9.1).length : Int)), (33, Vi t33__s33_l16), (163, .bool true)] ⟨rfl, rfl, rfl, rfl, rfl, rfl, rfl, trivial⟩ (fun J => ?_)))
       refine c_true rfl (c_sp (x_u 1 [(2, .bool false)] (x_ek ?_)))
       refine c_ret (k_block_ret (k_then_ret ?_))
       have hx := some_inj h
       subst hx
       have hy := some_inj hn16
       subst hy
       replace h := h16
       refine k_then_ret (k_block_ret (k_then_ret (r_ret (r_vals [.bool false] ⟨rfl, trivial⟩ ?_))))
       have hx := some_inj h
       subst hx
       exact ⟨rfl, hev⟩
     refine x_fieldAddr (xv := Vp b20 0) (Vp b20 1) rfl rfl rfl (reads_field tfld48_1 _ _) (x_load (xv := Vp b20 1) (Vi x18.2.1) rfl rfl rfl (reads_box tcell3 hb20 nn 1 _ rfl) (x_u 3 [(122, Vl a0_10 x9.1 c0_10), (123, Vi t33__s33_l16), (124, Vi (IntKind.i64.wrap (t33__s33_l16 - 1)))] ?_))
     obtain ⟨x47, hx47, h⟩ := bind_some h
     obtain ⟨ad47, cs47, hr47, hc47, hR⟩ := reads_index (Mo := []) tsl44 hf10_1 hx47
     obtain ⟨_, _, rfl, rfl, ⟨_, _, rfl, rfl, ⟨_, _, rfl, rfl, rfl⟩⟩⟩ := hR
     refine x_indexAddr (xv := Vl a0_10 x9.1 c0_10) (yv := Vi (IntKind.i64.wrap (t33__s33_l16 - 1))) (.pointer (some ad47)) rfl rfl rfl rfl hr47 (x_fieldAddr (xv := .pointer (some ad47)) (.pointer (some (Addr.add ad47 1))) rfl rfl rfl (reads_field tfld48_1 _ _) (x_load (xv := .pointer (some (Addr.add ad47 1))) (Vi x47.2.1) rfl rfl rfl (reads_cell tcell3 hc47 (fun _ h => by cases h) 1 _ rfl) ?_))
     refine x_u 2 [(128, .bool (x18.2.1 == x47.2.1)), (129, .bool (x18.2.1 == x47.2.1))] (x_if 129 (x18.2.1 == x47.2.1) rfl h (fun h => ?_) (fun h => ?_))
     · refine x_fieldAddr (xv := Vp b20 0) (Vp b20 2) rfl rfl rfl (reads_field tfld48_2 _ _) (x_load (xv := Vp b20 2) (Vi x18.2.2.1) rfl rfl rfl (reads_box tcell3 hb20 nn 2 _ rfl) (x_u 3 [(132, Vl a0_10 x9.1 c0_10), (133, Vi t33__s33_l16), (134, Vi (IntKind.i64.wrap (t33__s33_l16 - 1)))] ?_))
       obtain ⟨x49, hx49, h⟩ := bind_some h
       obtain ⟨ad49, cs49, hr49, hc49, hR⟩ := reads_index (Mo := []) tsl44 hf10_1 hx49
       obtain ⟨_, _, rfl, rfl, ⟨_, _, rfl, rfl, ⟨_, _, rfl, rfl, rfl⟩⟩⟩ := hR
       refine x_indexAddr (xv := Vl a0_10 x9.1 c0_10) (yv := Vi (IntKind.i64.wrap (t33__s33_l16 - 1))) (.pointer (some ad49)) rfl rfl rfl rfl hr49 (x_fieldAddr (xv := .pointer (some ad49)) (.pointer (some (Addr.add ad49 2))) rfl rfl rfl (reads_field tfld48_2 _ _) (x_load (xv := .pointer (some (Addr.add ad49 2))) (Vi x49.2.2.1) rfl rfl rfl (reads_cell tcell3 hc49 (fun _ h => by cases h) 2 _ rfl) ?_))
       refine x_u 2 [(138, .bool (decide (x18.2.2.1 < x49.2.2.1))), (139, .bool (decide (x18.2.2.1 < x49.2.2.1)))] (x_if 139 (decide (x18.2.2.1 < x49.2.2.1)) rfl h (fun h => ?_) (fun h => ?_))
       · refine x_u 24 [(140, undef), (141, undef), (142, undef), (143, undef), (144, undef), (145, undef), (146, undef), (147, undef), (148, undef), (149, undef), (150, undef), (151, undef), (152, undef), (153, undef), (154, undef), (155, undef), (156, undef), (157, undef), (158, undef), (159, undef), (160, .bool true), (161, .bool true), (162, .bool true), (163, .bool true)] (x_ek (c_norm [(3, Vl a0_7 x6.1 c0_7), (4, Vl a0_10 x9.1 c0_10), (6, .bool found_s6_j42), (31, Vl a0_10 x9.1 c0_10), (32, Vi ((x9.1).length : Int)), (33, Vi t33__s33_l16), (163, .bool true)] ⟨rfl, rfl, rfl, rfl, rfl, rfl, rfl, trivial⟩ (fun J => ?_)))
         refine c_true rfl (c_sp (x_u 1 [(2, .bool false)] (x_ek ?_)))
         refine c_ret (k_block_ret (k_then_ret ?_))
         have hx := some_inj h
         subst hx
         have hy := some_inj hn16
         subst hy
         replace h := h16
         refine k_then_ret (k_block_ret (k_then_ret (r_ret (r_vals [.bool false] ⟨rfl, trivial⟩ ?_))))
         have hx := some_inj h
         subst hx
         exact ⟨rfl, hev⟩
       refine x_fieldAddr (xv := Vp b20 0) (Vp b20 2) rfl rfl rfl (reads_field tfld48_2 _ _) (x_load (xv := Vp b20 2) (Vi x18.2.2.1) rfl rfl rfl (reads_box tcell3 hb20 nn 2 _ rfl) (x_u 3 [(142, Vl a0_10 x9.1 c0_10), (143, Vi t33__s33_l16), (144, Vi (IntKind.i64.wrap (t33__s33_l16 - 1)))] ?_))
       obtain ⟨x51, hx51, h⟩ := bind_some h
       obtain ⟨ad51, cs51, hr51, hc51, hR⟩ := reads_index (Mo := []) tsl44 hf10_1 hx51
       obtain ⟨_, _, rfl, rfl, ⟨_, _, rfl, rfl, ⟨_, _, rfl, rfl, rfl⟩⟩⟩ := hR
       refine x_indexAddr (xv := Vl a0_10 x9.1 c0_10) (yv := Vi (IntKind.i64.wrap (t33__s33_l16 - 1))) (.pointer (some ad51)) rfl rfl rfl rfl hr51 (x_fieldAddr (xv := .pointer (some ad51)) (.pointer (some (Addr.add ad51 2))) rfl rfl rfl (reads_field tfld48_2 _ _) (x_load (xv := .pointer (some (Addr.add ad51 2))) (Vi x51.2.2.1) rfl rfl rfl (reads_cell tcell3 hc51 (fun _ h => by cases h) 2 _ rfl) ?_))
       refine x_u 2 [(148, .bool (x18.2.2.1 == x51.2.2.1)), (149, .bool (x18.2.2.1 == x51.2.2.1))] (x_if 149 (x18.2.2.1 == x51.2.2.1) rfl h (fun h => ?_) (fun h => ?_))
       · refine x_fieldAddr (xv := Vp b20 0) (Vp b20 0) rfl rfl rfl (reads_field tfld48_0 _ _) (x_load (xv := Vp b20 0) (Vi x18.1) rfl rfl rfl (reads_box tcell3 hb20 nn 0 _ rfl) (x_u 3 [(152, Vl a0_10 x9.1 c0_10), (153, Vi t33__s33_l16), (154, Vi (IntKind.i64.wrap (t33__s33_l16 - 1)))] ?_))
         obtain ⟨x53, hx53, h⟩ := bind_some h
         obtain ⟨ad53, cs53, hr53, hc53, hR⟩ := reads_index (Mo := []) tsl44 hf10_1 hx53
         obtain ⟨_, _, rfl, rfl, ⟨_, _, rfl, rfl, ⟨_, _, rfl, rfl, rfl⟩⟩⟩ := hR
         refine x_indexAddr (xv := Vl a0_10 x9.1 c0_10) (yv := Vi (IntKind.i64.wrap (t33__s33_l16 - 1))) (.pointer (some ad53)) rfl rfl rfl rfl hr53 (x_fieldAddr (xv := .pointer (some ad53)) (.pointer (some (Addr.add ad53 0))) rfl rfl rfl (reads_field tfld48_0 _ _) (x_load (xv := .pointer (some (Addr.add ad53 0))) (Vi x53.1) rfl rfl rfl (reads_cell tcell3 hc53 (fun _ h => by cases h) 0 _ rfl) ?_))
         refine x_u 6 [(158, .bool (decide (x18.1 ≤ x53.1))), (159, .bool (decide (x18.1 ≤ x53.1))), (160, .bool (decide (x18.1 ≤ x53.1))), (161, .bool (decide (x18.1 ≤ x53.1))), (162, .bool (decide (x18.1 ≤ x53.1))), (163, .bool (decide (x18.1 ≤ x53.1)))] (x_ek (c_norm [(3, Vl a0_7 x6.1 c0_7), (4, Vl a0_10 x9.1 c0_10), (6, .bool found_s6_j42), (31, Vl a0_10 x9.1 c0_10), (32, Vi ((x9.1).length : Int)), (33, Vi t33__s33_l16), (163, .bool (decide (x18.1 ≤ x53.1)))] ⟨rfl, rfl, rfl, rfl, rfl, rfl, rfl, trivial⟩ (fun J => ?_)))
         refine c_if (decide (x18.1 ≤ x53.1)) rfl h (fun h => ?_) (fun h => ?_)
         · refine c_sp (x_u 1 [(2, .bool false)] (x_ek (c_ret ?_)))
           refine k_block_ret (k_then_ret ?_)
           have hx := some_inj h
           subst hx
           have hy := some_inj hn16
           subst hy
           replace h := h16
           refine k_then_ret (k_block_ret (k_then_ret (r_ret (r_vals [.bool false] ⟨rfl, trivial⟩ ?_))))
           have hx := some_inj h
           subst hx
           exact ⟨rfl, hev⟩
         refine c_skip (k_block (k_then (c_plain ?_)))
         refine x_u 2 [(164, Vi (IntKind.i64.wrap (t33__s33_l16 + 1))), (33, Vi (IntKind.i64.wrap (t33__s33_l16 + 1)))] (x_end rfl ?_)
         have hx := some_inj h
         subst hx
         have hpk : MS (wj42).drew [M] := hms.pick [some 1] _ rfl
         have hsu : ∀ x ∈ fl [M], x ∈ fl [[b20], M] := pick_sub [some 1] _ rfl
         replace hf7_1 := hf7_1.sub hsu
         replace hf10_1 := hf10_1.sub hsu
         replace hms := hpk
         replace hfr : FR w.heap.size [] := hfr.pick [] _ rfl
         clear hpk hsu
         exact k_then ⟨(m16, found_s6_j42, IntKind.i64.wrap (t33__s33_l16 + 1)), ⟨rfl, rfl, rfl, rfl, rfl, rfl, trivial⟩, ⟨hn16, hev, hms, hfr, hf7_1, hf10_1⟩, Nat.lt_succ_self _⟩
       refine x_u 14 [(150, undef), (151, undef), (152, undef), (153, undef), (154, undef), (155, undef), (156, undef), (157, undef), (158, undef), (159, .bool false), (160, .bool false), (161, .bool false), (162, .bool false), (163, .bool false)] (x_ek (c_norm [(3, Vl a0_7 x6.1 c0_7), (4, Vl a0_10 x9.1 c0_10), (6, .bool found_s6_j42), (31, Vl a0_10 x9.1 c0_10), (32, Vi ((x9.1).length : Int)), (33, Vi t33__s33_l16), (163, .bool false)] ⟨rfl, rfl, rfl, rfl, rfl, rfl, rfl, trivial⟩ (fun J => ?_)))
       refine c_false rfl (c_skip (k_block (k_then ?_)))
       refine c_plain (x_u 2 [(164, Vi (IntKind.i64.wrap (t33__s33_l16 + 1))), (33, Vi (IntKind.i64.wrap (t33__s33_l16 + 1)))] (x_end rfl ?_))
       have hx := some_inj h
       subst hx
       have hpk : MS (wj42).drew [M] := hms.pick [some 1] _ rfl
       have hsu : ∀ x ∈ fl [M], x ∈ fl [[b20], M] := pick_sub [some 1] _ rfl
       replace hf7_1 := hf7_1.sub hsu
       replace hf10_1 := hf10_1.sub hsu
       replace hms := hpk
       replace hfr : FR w.heap.size [] := hfr.pick [] _ rfl
       clear hpk hsu
       exact k_then ⟨(m16, found_s6_j42, IntKind.i64.wrap (t33__s33_l16 + 1)), ⟨rfl, rfl, rfl, rfl, rfl, rfl, trivial⟩, ⟨hn16, hev, hms, hfr, hf7_1, hf10_1⟩, Nat.lt_succ_self _⟩
     refine x_u 34 [(130, undef), (131, undef), (132, undef), (133, undef), (134, undef), (135, undef), (136, undef), (137, undef), (138, undef), (139, undef), (140, undef), (141, undef), (142, undef), (143, undef), (144, undef), (145, undef), (146, undef), (147, undef), (148, undef), (149, undef), (150, undef), (151, undef), (152, undef), (153, undef), (154, undef), (155, undef), (156, undef), (157, undef), (158, undef), (159, undef), (160, undef), (161, .bool false), (162, .bool false), (163, .bool false)] (x_ek (c_norm [(3, Vl a0_7 x6.1 c0_7), (4, Vl a0_10 x9.1 c0_10), (6, .bool found_s6_j42), (31, Vl a0_10 x9.1 c0_10), (32, Vi ((x9.1).length : Int)), (33, Vi t33__s33_l16), (163, .bool false)] ⟨rfl, rfl, rfl, rfl, rfl, rfl, rfl, trivial⟩ (fun J => ?_)))
     refine c_false rfl (c_skip (k_block (k_then ?_)))
     refine c_plain (x_u 2 [(164, Vi (IntKind.i64.wrap (t33__s33_l16 + 1))), (33, Vi (IntKind.i64.wrap (t33__s33_l16 + 1)))] (x_end rfl ?_))
     have hx := some_inj h
     subst hx
     have hpk : MS (wj42).drew [M] := hms.pick [some 1] _ rfl
     have hsu : ∀ x ∈ fl [M], x ∈ fl [[b20], M] := pick_sub [some 1] _ rfl
     replace hf7_1 := hf7_1.sub hsu
     replace hf10_1 := hf10_1.sub hsu
     replace hms := hpk
     replace hfr : FR w.heap.size [] := hfr.pick [] _ rfl
     clear hpk hsu
     exact k_then ⟨(m16, found_s6_j42, IntKind.i64.wrap (t33__s33_l16 + 1)), ⟨rfl, rfl, rfl, rfl, rfl, rfl, trivial⟩, ⟨hn16, hev, hms, hfr, hf7_1, hf10_1⟩, Nat.lt_succ_self _⟩
   refine x_u 54 [(110, undef), (111, undef), (112, undef), (113, undef), (114, undef), (115, undef), (116, undef), (117, undef), (118, undef), (119, undef), (120, undef), (121, undef), (122, undef), (123, undef), (124, undef), (125, undef), (126, undef), (127, undef), (128, undef), (129, undef), (130, undef), (131, undef), (132, undef), (133, undef), (134, undef), (135, undef), (136, undef), (137, undef), (138, undef), (139, undef), (140, undef), (141, undef), (142, undef), (143, undef), (144, undef), (145, undef), (146, undef), (147, undef), (148, undef), (149, undef), (150, undef), (151, undef), (152, undef), (153, undef), (154, undef), (155, undef), (156, undef), (157, undef), (158, undef), (159, undef), (160, undef), (161, undef), (162, undef), (163, .bool false)] (x_ek (c_norm [(3, Vl a0_7 x6.1 c0_7), (4, Vl a0_10 x9.1 c0_10), (6, .bool found_s6_j42), (31, Vl a0_10 x9.1 c0_10), (32, Vi ((x9.1).length : Int)), (33, Vi t33__s33_l16), (163, .bool false)] ⟨rfl, rfl, rfl, rfl, rfl, rfl, rfl, trivial⟩ (fun J => ?_)))
   refine c_false rfl (c_skip (k_block (k_then ?_)))
   refine c_plain (x_u 2 [(164, Vi (IntKind.i64.wrap (t33__s33_l16 + 1))), (33, Vi (IntKind.i64.wrap (t33__s33_l16 + 1)))] (x_end rfl ?_))
   have hx := some_inj h
   subst hx
   have hpk : MS (wj42).drew [M] := hms.pick [some 1] _ rfl
   have hsu : ∀ x ∈ fl [M], x ∈ fl [[b20], M] := pick_sub [some 1] _ rfl
   replace hf7_1 := hf7_1.sub hsu
   replace hf10_1 := hf10_1.sub hsu
   replace hms := hpk
   replace hfr : FR w.heap.size [] := hfr.pick [] _ rfl
   clear hpk hsu
   exact k_then ⟨(m16, found_s6_j42, IntKind.i64.wrap (t33__s33_l16 + 1)), ⟨rfl, rfl, rfl, rfl, rfl, rfl, trivial⟩, ⟨hn16, hev, hms, hfr, hf7_1, hf10_1⟩, Nat.lt_succ_self _⟩
 refine c_exit (k_then_exit ?_)
 have hx := some_inj h
 subst hx
 have hy := some_inj hn16
 subst hy
 replace h := h16
 refine k_then_exit (k_block_in (k_then (c_norm [(6, .bool found_s6_l16)] ⟨rfl, trivial⟩ (fun J => ?_))))
 refine c_sp (x_u 2 [(165, .bool found_s6_l16), (166, .bool found_s6_l16)] (x_if 166 found_s6_l16 rfl h (fun h => ?_) (fun h => ?_)))
 · obtain ⟨x55, hx, h⟩ := bind_some h
   have hcall := law17_sane_w _ wl16 hx
   refine x_call 18 #[] #[] [] _ rfl rfl rfl rfl hcall ?_
   rintro v w56 ⟨rfl, he56⟩
   clear hcall hx
   refine inl1 ?_
   replace hev := hev.ext he56
   refine x_u 2 [(168, .bool x55), (2, .bool x55)] (x_ek (c_ret (r_ret (r_vals [.bool x55] ⟨rfl, trivial⟩ ?_))))
   have hx := some_inj h
   subst hx
   exact ⟨rfl, hev⟩
 refine x_u 3 [(167, undef), (168, .bool false), (2, .bool false)] (x_ek (c_ret (r_ret (r_vals [.bool false] ⟨rfl, trivial⟩ ?_))))
 have hx := some_inj h
 subst hx
 exact ⟨rfl, hev⟩

end Go.Proofs.YtlejnkhaphlooaaGreat
