/- Walks, printed by program: each function returns what the partial function of the same name returns. Conditions: those of each theorem. -/
import Derived.Test.YtmjobkpgnhbcbaaGT
import Derived.Test.YtmjobkpgnhbcbaaGgen
import Derived.Test.YtmjobkpgnhbcbaaGlaw14exact
import Derived.Test.YtmjobkpgnhbcbaaGlaw14plan
import Derived.Test.YtmjobkpgnhbcbaaGlaw14sane
set_option linter.unusedVariables false
set_option linter.unusedSimpArgs false
set_option maxRecDepth 4000
namespace Go.Proofs.Ytmjobkpgnhbcbaa
open Go Go.V Go.Proofs
def law14_RollinExact_J35 (x8 : ((List Int) × Int)) (i_s10_l13 : Int) (d23_j27 : List Int) (e25_j29_0 : Int) (e10_j35_1 : Int) (d38_j35 : List (Int × Int × Int × Int)) (e19_j35_1 : Int) : Option (Step (Int × Int) (Unit ⊕ Unit)) :=
((gen_Maker_From x8.1 e10_j35_1 (-1) 6).bind fun x40 =>
((law14_exact d38_j35 e19_j35_1 e25_j29_0 d23_j27 x40.1).bind fun x42 =>
(if (!x42) = true then
some (.done (.inl ()))
else
some (.next (x40.2, IntKind.i64.wrap (i_s10_l13 + 1))))))

def law14_RollinExact_J29 (x8 : ((List Int) × Int)) (i_s10_l13 : Int) (x15 : ((List (Int × Int × Int × Int)) × Int) × Int) (d23_j27 : List Int) (e10_j29_1 : Int) (e25_j29_0 : Int) : Option (Step (Int × Int) (Unit ⊕ Unit)) :=
(if (i_s10_l13 == 3) = true then
((gen_Maker_SpoilJob x8.1 e10_j29_1 x15.1.1 x15.1.2).bind fun x36 =>
law14_RollinExact_J35 x8 i_s10_l13 d23_j27 e25_j29_0 x36.2 x36.1.1 x36.1.2)
else
law14_RollinExact_J35 x8 i_s10_l13 d23_j27 e25_j29_0 e10_j29_1 x15.1.1 x15.1.2)

def law14_RollinExact_J27 (x8 : ((List Int) × Int)) (i_s10_l13 : Int) (x15 : ((List (Int × Int × Int × Int)) × Int) × Int) (x21 : (Int × (List Int)) × Int) (e10_j27_1 : Int) (d23_j27 : List Int) : Option (Step (Int × Int) (Unit ⊕ Unit)) :=
(if (i_s10_l13 == 2) = true then
((gen_Maker_Pick x8.1 e10_j27_1 ([(-1), 1, 13])).bind fun x32 =>
law14_RollinExact_J29 x8 i_s10_l13 x15 d23_j27 x32.2 (IntKind.i64.wrap (x21.1.1 + x32.1)))
else
law14_RollinExact_J29 x8 i_s10_l13 x15 d23_j27 e10_j27_1 x21.1.1)

def law14_RollinExact_J28 (x8 : ((List Int) × Int)) (i_s10_l13 : Int) (x15 : ((List (Int × Int × Int × Int)) × Int) × Int) (x21 : (Int × (List Int)) × Int) (t31__s31_j28 : Bool) : Option (Step (Int × Int) (Unit ⊕ Unit)) :=
(if t31__s31_j28 = true then
(if 0 ≤ x21.1.1 then
((gen_Maker_Next x8.1 x21.2 ((x21.1.2).length : Int)).bind fun x29 =>
((gen_Maker_Pick x8.1 x29.2 ([(-1), 0, 1, 3, IntKind.i64.wrap (1 * 2 ^ (min (Int.toNat (x21.1.1)) IntKind.i64.bits))])).bind fun x33 =>
((idx x21.1.2 x29.1).bind fun x35 =>
law14_RollinExact_J27 x8 i_s10_l13 x15 x21 x33.2 (x21.1.2.set (Int.toNat x29.1) x33.1))))
else none)
else
law14_RollinExact_J27 x8 i_s10_l13 x15 x21 x21.2 x21.1.2)

def law14_RollinExact_L13 (x8 : ((List Int) × Int)) (s : Int × Int) : Option (Step (Int × Int) (Unit ⊕ Unit)) :=
match s with
| (e10_l13_1, i_s10_l13) =>
(if (decide (i_s10_l13 < 4)) = true then
((gen_Maker_Job x8.1 e10_l13_1 10).bind fun x15 =>
((law14_plan x8.1 x15.2 x15.1.1 x15.1.2).bind fun x21 =>
(if (i_s10_l13 == 1) = true then
law14_RollinExact_J28 x8 i_s10_l13 x15 x21 (decide (((x21.1.2).length : Int) > 0))
else
law14_RollinExact_J28 x8 i_s10_l13 x15 x21 false)))
else
some (.done (.inr ())))

def law14_RollinExact (p0 : List Int) (p1_0 : List (Int × Int × Int × Int)) (p1_1 : Int) (p2_0 : Int) (p2_1 : List Int) (p3 : Int) : Option Bool :=
((gen_New p0).bind fun x8 =>
((loop (law14_RollinExact_L13 x8) (x8.2, 0)).bind fun d => match d with
| (.inl _) => some false
| (.inr _) => (if (decide (((p1_0).length : Int) > 30)) = true then
some true
else
(if (decide (((p2_1).length : Int) > 30)) = true then
some true
else
((law14_exact p1_0 p1_1 p2_0 p2_1 p3).bind fun x44 =>
(if x44 = true then
((law14_sane).bind fun x46 =>
some x46)
else
some false))))))

theorem law14_RollinExact_w (a_p0 : Option Addr) (c_p0 : Nat) (p0 : List Int) (a_p1_0 : Option Addr) (c_p1_0 : Nat) (p1_0 : List (Int × Int × Int × Int)) (p1_1 : Int) (p2_0 : Int) (a_p2_1 : Option Addr) (c_p2_1 : Nat) (p2_1 : List Int) (p3 : Int) (r : Bool) (w : World) (M : List Nat) (hms : MS w [M]) (hs_p0 : SlR (eInt .i64) w (fl [M]) a_p0 c_p0 p0) (hs_p1_0 : SlR (eProd (eInt .i64) (eProd (eInt .i64) (eProd (eInt .i64) (eInt .i64)))) w (fl [M]) a_p1_0 c_p1_0 p1_0) (hs_p2_1 : SlR (eInt .i64) w (fl [M]) a_p2_1 c_p2_1 p2_1) (h : law14_RollinExact p0 p1_0 p1_1 p2_0 p2_1 p3 = some r) : CallVC Try.prog 8 [.slice a_p0 (p0).length c_p0, .agg #[.slice a_p1_0 (p1_0).length c_p1_0, .int .i64 p1_1], .agg #[.int .i64 p2_0, .slice a_p2_1 (p2_1).length c_p2_1], .int .i64 p3] w fun v w' => v = .bool r ∧ Ev [] w w' := by
  refine calls_vc hmx Try.func8 (by kernel_rfl) rfl (rs := [.tmp 8]) rfl (by kernel_rfl) (args := [.slice a_p0 (p0).length c_p0, .agg #[.slice a_p1_0 (p1_0).length c_p1_0, .int .i64 p1_1], .agg #[.int .i64 p2_0, .slice a_p2_1 (p2_1).length c_p2_1], .int .i64 p3]) rfl ?_
  have hev : Ev [] w w := Ev.refl _ _
  have hfr : FR w.heap.size [] := FR.nil _
  refine c_seq (c_plain ?_)
  refine x_box (xv := .agg #[.slice a_p1_0 (p1_0).length c_p1_0, .int .i64 p1_1]) rfl rfl rfl (fun b4 w4 hq4 hb4 he4 _ => ?_)
  replace hb4 : w4.heap[b4]? = some (.cells #[.slice a_p1_0 (p1_0).length c_p1_0, .int .i64 p1_1] 27 (0, 0)) := hb4
  refine ⟨.inl rfl, ?_⟩
  have hst := Stp.box (ls := [M]) he4 hq4
  replace hs_p0 := hs_p0.step hst
  replace hs_p1_0 := hs_p1_0.step hst
  replace hs_p2_1 := hs_p2_1.step hst
  replace hms := hms.box he4 hq4 hb4
  replace hfr := hfr.box hev.size hq4
  replace hev := hev.ext he4
  refine x_box (xv := .agg #[.int .i64 p2_0, .slice a_p2_1 (p2_1).length c_p2_1]) rfl rfl rfl (fun b6 w6 hq6 hb6 he6 _ => ?_)
  replace hb6 : w6.heap[b6]? = some (.cells #[.int .i64 p2_0, .slice a_p2_1 (p2_1).length c_p2_1] 30 (0, 0)) := hb6
  refine ⟨.inl rfl, ?_⟩
  have hst := Stp.box (ls := [[b4], M]) he6 hq6
  replace hs_p0 := hs_p0.step hst
  replace hs_p1_0 := hs_p1_0.step hst
  replace hs_p2_1 := hs_p2_1.step hst
  replace hb4 := he6.box hb4 nn
  replace hms := hms.box he6 hq6 hb6
  replace hfr := hfr.box hev.size hq6
  replace hev := hev.ext he6
  refine x_pure 1 [(8, .bool false)] _ _ _ (by kernel_rfl) ?_
  refine x_end rfl (k_then ?_)
  refine c_seq (c_plain ?_)
  refine x_pure 1 [(13, .slice a_p0 (p0).length c_p0)] _ _ _ (by kernel_rfl) ?_
  obtain ⟨x8, hx, h⟩ := bind_some h
  have hpk : MS w6 ([] ++ [[b6], [b4], M]) := hms.pick [some 0, some 1, some 2] _ rfl
  have hsb0 : ∀ x ∈ fl ([] ++ [[b6], [b4], M]), x ∈ fl [[b6], [b4], M] := pick_sub [some 0, some 1, some 2] _ rfl
  have hsb : ∀ x ∈ fl ([] ++ [(fl [[b6], [b4], M])]), x ∈ fl [[b6], [b4], M] := fun x hx => hsb0 x (fl_unfold x hx)
  have hcall := gen_New_w a_p0 c_p0 p0 _ w6 (fl [[b6], [b4], M]) (MS.fold (P := []) hpk) (hs_p0.sub hsb) hx
  refine x_call 11 #[] #[] [.slice a_p0 (p0).length c_p0] _ rfl rfl rfl rfl hcall ?_
  rintro v w9 ⟨b0_9, a1_9, c1_9, rfl, he9, hmn9, hfn9, hf9_1, hf9_2⟩
  clear hcall hx
  refine ⟨.inl rfl, ?_⟩
  have hpk2 : MS w6 ([] ++ [[b6], [b4], M]) := hms.pick [some 0, some 1, some 2] _ rfl
  have hsb2 : ∀ x ∈ fl ([] ++ [[b6], [b4], M]), x ∈ fl [[b6], [b4], M] := pick_sub [some 0, some 1, some 2] _ rfl
  have hst0 := Stp.call (LS := [[b6], [b4], M]) (res := [[b0_9]]) (par := []) (R := [[b6], [b4], M]) he9 (fun b hb => hsb2 b (fl_left' (P := []) b hb)) hfn9 (NP.init _ _) (fun x hx => hsb2 x (fl_right' (P := []) x hx))
  have hsn : ∀ x ∈ fl [[b0_9], [b6], [b4], M], x ∈ fl ([[b0_9]] ++ ([] ++ [[b6], [b4], M])) := pick_sub [some 0, some 1, some 2, some 3] _ rfl
  have hst := hst0.res hsn
  replace hs_p0 := hs_p0.step hst
  replace hs_p1_0 := hs_p1_0.step hst
  replace hs_p2_1 := hs_p2_1.step hst
  replace hb4 := he9.box hb4 ((MS.outs (P := []) hpk2 1 rfl) _ (List.mem_singleton.2 rfl))
  replace hb6 := he9.box hb6 ((MS.outs (P := []) hpk2 0 rfl) _ (List.mem_singleton.2 rfl))
  replace hms : MS w9 [[b0_9], [b6], [b4], M] := (MS.call (P := []) (R := [[b6], [b4], M]) (res := [[b0_9]]) (par := []) hpk2 he9 hmn9 hfn9 (NP.init _ _)).pick [some 0, some 1, some 2, some 3] _ rfl
  have hfr2 : FR w.heap.size [[b0_9], [b6], [b4]] := (FR.cons (fun b hb => Nat.le_trans hev.size (hfn9.at 0 rfl b hb)) (FR.cons (hfr.at 0 rfl) (FR.cons (hfr.at 1 rfl) (FR.nil _))))
  replace hev := hev.ext he9
  replace hfr := hfr2
  clear hfr2
  have hsp : ∀ x ∈ fl [[b0_9], [b6], [b4], M], x ∈ fl ([[b0_9]] ++ ([] ++ [(fl [[b6], [b4], M])])) := fun x hx => fl_tot (res := [[b0_9]]) (par := []) (R := [[b6], [b4], M]) x (hsn x hx)
  replace hf9_2 := hf9_2.sub hsp
  clear hpk hsb hsb0 hpk2 hsb2 hst0 hsn hst
  refine x_pure 1 [(9, .pointer (some ⟨b0_9, 0, none⟩))] _ _ _ (by kernel_rfl) ?_
  refine x_end rfl (k_then ?_)
  refine c_seq ?_
  refine c_seq (c_plain ?_)
  refine x_pure 1 [(10, .int .i64 0)] _ _ _ (by kernel_rfl) ?_
  refine x_end rfl (k_then ?_)
  refine c_block ?_
  have hpk : MS w9 [[b4], [b6], [b0_9], M] := hms.pick [some 2, some 1, some 0, some 3] _ rfl
  have hsu : ∀ x ∈ fl [[b4], [b6], [b0_9], M], x ∈ fl [[b0_9], [b6], [b4], M] := pick_sub [some 2, some 1, some 0, some 3] _ rfl
  replace hs_p1_0 := hs_p1_0.sub hsu
  replace hs_p2_1 := hs_p2_1.sub hsu
  replace hf9_2 := hf9_2.sub hsu
  replace hms := hpk
  replace hfr : FR w.heap.size [[b4], [b6], [b0_9]] := hfr.pick [some 2, some 1, some 0] _ rfl
  clear hpk hsu
  obtain ⟨d13, hd13, h13⟩ := bind_some h
  obtain ⟨m13, hd13⟩ := loop_some hd13
  refine c_loop (loop_rule hmx (σ := Nat × Int × Int) (fun s => match s with | (_, e10_l13_1, i_s10_l13) => [(3, .int .i64 p3), (5, .pointer (some ⟨b4, 0, none⟩)), (6, .pointer (some ⟨b6, 0, none⟩)), (9, .pointer (some ⟨b0_9, 0, none⟩)), (10, .int .i64 i_s10_l13)]) (fun s w' => match s with | (m, e10_l13_1, i_s10_l13) => loopN (law14_RollinExact_L13 x8) m (e10_l13_1, i_s10_l13) = some d13 ∧ Ev [] w w' ∧ MS w' [[b4], [b6], [b0_9], M] ∧ FR w.heap.size [[b4], [b6], [b0_9]] ∧ SlR (eProd (eInt .i64) (eProd (eInt .i64) (eProd (eInt .i64) (eInt .i64)))) w' (fl [[b4], [b6], [b0_9], M]) a_p1_0 c_p1_0 p1_0 ∧ w'.heap[b4]? = some (.cells #[.slice a_p1_0 (p1_0).length c_p1_0, .int .i64 p1_1] 27 (0, 0)) ∧ SlR (eInt .i64) w' (fl [[b4], [b6], [b0_9], M]) a_p2_1 c_p2_1 p2_1 ∧ w'.heap[b6]? = some (.cells #[.int .i64 p2_0, .slice a_p2_1 (p2_1).length c_p2_1] 30 (0, 0)) ∧ SlR (eInt .i64) w' (fl [[b4], [b6], [b0_9], M]) a1_9 c1_9 x8.1 ∧ w'.heap[b0_9]? = some (.cells #[.slice a1_9 (x8.1).length c1_9, .int .i64 e10_l13_1] 67 (0, 0))) (fun s => s.1) (m13, x8.2, 0) ⟨rfl, rfl, rfl, rfl, rfl, trivial⟩ ⟨hd13, hev, hms, hfr, hs_p1_0, hb4, hs_p2_1, hb6, hf9_2, hf9_1⟩ ?_)
  rintro ⟨m13, e10_l13_1, i_s10_l13⟩ J wl13 ⟨hn13, hev, hms, hfr, hs_p1_0, hb4, hs_p2_1, hb6, hf9_2, hf9_1⟩
  rcases m13 with _ | m13
  · exact (loopN_zero hn13).elim
  obtain ⟨t13, h, hn13⟩ := bind_some hn13
  refine c_seq ?_
  refine c_seq (c_plain ?_)
  refine x_pure 2 [(15, .int .i64 i_s10_l13), (16, .bool (decide (i_s10_l13 < 4)))] _ _ _ (by kernel_rfl) ?_
  refine x_end rfl (k_then ?_)
  refine c_norm [(3, .int .i64 p3), (5, .pointer (some ⟨b4, 0, none⟩)), (6, .pointer (some ⟨b6, 0, none⟩)), (9, .pointer (some ⟨b0_9, 0, none⟩)), (10, .int .i64 i_s10_l13), (16, .bool (decide (i_s10_l13 < 4)))] ⟨rfl, rfl, rfl, rfl, rfl, rfl, trivial⟩ (fun J => ?_)
  refine c_cond (decide (i_s10_l13 < 4)) rfl (fun hb => ?_) (fun hb => ?_)
  · replace h := ite_t hb h
    refine c_skip ?_
    refine k_then ?_
    refine c_seq ?_
    refine c_block ?_
    refine c_seq (c_plain ?_)
    refine x_pure 1 [(19, .pointer (some ⟨b0_9, 0, none⟩))] _ _ _ (by kernel_rfl) ?_
    obtain ⟨x15, hx, h⟩ := bind_some h
    have hpk : MS wl13 ([[b0_9]] ++ [[b4], [b6], M]) := hms.pick [some 2, some 0, some 1, some 3] _ rfl
    have hsb0 : ∀ x ∈ fl ([[b0_9]] ++ [[b4], [b6], M]), x ∈ fl [[b4], [b6], [b0_9], M] := pick_sub [some 2, some 0, some 1, some 3] _ rfl
    have hsb : ∀ x ∈ fl ([[b0_9]] ++ [(fl [[b4], [b6], M])]), x ∈ fl [[b4], [b6], [b0_9], M] := fun x hx => hsb0 x (fl_unfold x hx)
    have hcall := gen_Maker_Job_w b0_9 a1_9 c1_9 x8.1 e10_l13_1 10 _ wl13 (fl [[b4], [b6], M]) (hpk.fold (P := [[b0_9]])) (hf9_2.sub hsb) hf9_1 hx
    refine x_call 12 #[] #[] [.pointer (some ⟨b0_9, 0, none⟩), .int .i64 10] _ rfl rfl rfl rfl hcall ?_
    rintro v w16 ⟨a0_16, c0_16, rfl, he16, hp16_0, hmn16, hfn16, hf16_1⟩
    clear hcall hx
    refine ⟨.inl rfl, ?_⟩
    have hpk2 : MS wl13 ([[b0_9]] ++ [[b4], [b6], M]) := hms.pick [some 2, some 0, some 1, some 3] _ rfl
    have hsb2 : ∀ x ∈ fl ([[b0_9]] ++ [[b4], [b6], M]), x ∈ fl [[b4], [b6], [b0_9], M] := pick_sub [some 2, some 0, some 1, some 3] _ rfl
    have hst0 := Stp.call (LS := [[b4], [b6], [b0_9], M]) (res := [blk a0_16]) (par := [[b0_9]]) (R := [[b4], [b6], M]) he16 (fun b hb => hsb2 b (fl_left' (P := [[b0_9]]) b hb)) hfn16 (NP.init _ _) (fun x hx => hsb2 x (fl_right' (P := [[b0_9]]) x hx))
    have hsn : ∀ x ∈ fl [blk a0_16, [b4], [b6], [b0_9], M], x ∈ fl ([blk a0_16] ++ ([[b0_9]] ++ [[b4], [b6], M])) := pick_sub [some 0, some 2, some 3, some 1, some 4] _ rfl
    have hst := hst0.res hsn
    replace hb4 := he16.box hb4 ((MS.outs (P := [[b0_9]]) hpk2 0 rfl) _ (List.mem_singleton.2 rfl))
    replace hs_p1_0 := hs_p1_0.step hst
    replace hb6 := he16.box hb6 ((MS.outs (P := [[b0_9]]) hpk2 1 rfl) _ (List.mem_singleton.2 rfl))
    replace hs_p2_1 := hs_p2_1.step hst
    replace hf9_2 := hf9_2.step hst
    replace hms : MS w16 [blk a0_16, [b4], [b6], [b0_9], M] := (MS.call (P := [[b0_9]]) (R := [[b4], [b6], M]) (res := [blk a0_16]) (par := [[b0_9]]) hpk2 he16 hmn16 hfn16 (NP.init _ _)).pick [some 0, some 2, some 3, some 1, some 4] _ rfl
    have hPf : ∀ b ∈ fl [[b0_9]], w.heap.size ≤ b := FR.mem (ls := [[b0_9]]) (hfr.pick [some 2] _ rfl)
    have hfr2 : FR w.heap.size [blk a0_16, [b4], [b6], [b0_9]] := (FR.cons (fun b hb => Nat.le_trans hev.size (hfn16.at 0 rfl b hb)) (FR.cons (hfr.at 0 rfl) (FR.cons (hfr.at 1 rfl) (FR.cons (hfr.at 2 rfl) (FR.nil _)))))
    replace hev := hev.then he16 (fun b hb => .inr (hPf b hb))
    replace hfr := hfr2
    clear hfr2
    replace hf9_1 := hp16_0
    replace hf16_1 := OwnS.plain (M' := fl [blk a0_16, [b4], [b6], [b0_9], M]) (plain_prod (plain_int _) (plain_prod (plain_int _) (plain_prod (plain_int _) (plain_int _)))) hf16_1
    clear hpk hsb hsb0 hpk2 hsb2 hst0 hsn hst
    have hpk : MS w16 [[b4], [b6], [b0_9], M] := hms.pick [some 1, some 2, some 3, some 4] _ rfl
    have hsu : ∀ x ∈ fl [[b4], [b6], [b0_9], M], x ∈ fl [blk a0_16, [b4], [b6], [b0_9], M] := pick_sub [some 1, some 2, some 3, some 4] _ rfl
    replace hs_p1_0 := hs_p1_0.sub hsu
    replace hs_p2_1 := hs_p2_1.sub hsu
    replace hf9_2 := hf9_2.sub hsu
    replace hf16_1 := hf16_1.ro hsu (pick_out hms 0 rfl [some 1, some 2, some 3, some 4] [[b4], [b6], [b0_9], M] rfl rfl)
    replace hms := hpk
    replace hfr : FR w.heap.size [[b4], [b6], [b0_9]] := hfr.pick [some 1, some 2, some 3] _ rfl
    clear hpk hsu
    refine x_alloc (z := .agg #[.slice none 0 0, .int .i64 0]) rfl rfl (by kernel_rfl) (fun b18 w18 hq18 hb18 he18 _ => ?_)
    replace hb18 : w18.heap[b18]? = some (.cells #[.slice none 0 0, .int .i64 0] 27 (0, 0)) := hb18
    refine ⟨.inl rfl, ?_⟩
    have hst := Stp.box (ls := [[b4], [b6], [b0_9], M]) he18 hq18
    replace hb4 := he18.box hb4 nn
    replace hs_p1_0 := hs_p1_0.step hst
    replace hb6 := he18.box hb6 nn
    replace hs_p2_1 := hs_p2_1.step hst
    replace hf9_1 := he18.box hf9_1 nn
    replace hf9_2 := hf9_2.step hst
    replace hf16_1 := hf16_1.step hst
    replace hms := hms.box he18 hq18 hb18
    replace hfr := hfr.box hev.size hq18
    replace hev := hev.ext he18
    obtain ⟨w20, hr20, hb20, he20⟩ := store_boxagg 0 [.slice a0_16 (x15.1.1).length c0_16, .int .i64 x15.1.2] #[.slice a0_16 (x15.1.1).length c0_16, .int .i64 x15.1.2] tagg27 hb18 rfl rfl rfl
    refine x_store w20 (xv := .pointer (some ⟨b18, 0, none⟩)) (yv := .agg #[.slice a0_16 (x15.1.1).length c0_16, .int .i64 x15.1.2]) rfl rfl rfl rfl hr20 ?_
    refine ⟨.inl rfl, ?_⟩
    have hst := Stp.ev' (ls := [[b18], [b4], [b6], [b0_9], M]) he20 (mem_flat 0 rfl)
    replace hb4 := he20.box hb4 (hms.apart 1 0 rfl rfl rfl _ (List.mem_singleton.2 rfl))
    replace hs_p1_0 := hs_p1_0.step hst
    replace hb6 := he20.box hb6 (hms.apart 2 0 rfl rfl rfl _ (List.mem_singleton.2 rfl))
    replace hs_p2_1 := hs_p2_1.step hst
    replace hf9_1 := he20.box hf9_1 (hms.apart 3 0 rfl rfl rfl _ (List.mem_singleton.2 rfl))
    replace hf9_2 := hf9_2.step hst
    replace hf16_1 := hf16_1.step hst
    replace hms := hms.ev he20
    replace hev := hev.then he20 (fun b hb => .inr (hfr.at 0 rfl b hb))
    replace hb18 := hb20
    refine x_end rfl (k_then ?_)
    refine c_seq (c_plain ?_)
    refine x_pure 1 [(21, .pointer (some ⟨b0_9, 0, none⟩))] _ _ _ (by kernel_rfl) ?_
    refine x_load (xv := .pointer (some ⟨b18, 0, none⟩)) (.agg #[.slice a0_16 (x15.1.1).length c0_16, .int .i64 x15.1.2]) rfl rfl rfl (reads_boxagg 0 [.slice a0_16 (x15.1.1).length c0_16, .int .i64 x15.1.2] tagg27 hb18 nn rfl) ?_
    obtain ⟨x21, hx, h⟩ := bind_some h
    have hpk : MS w20 ([[b0_9]] ++ [[b18], [b4], [b6], M]) := hms.pick [some 3, some 0, some 1, some 2, some 4] _ rfl
    have hsb0 : ∀ x ∈ fl ([[b0_9]] ++ [[b18], [b4], [b6], M]), x ∈ fl [[b18], [b4], [b6], [b0_9], M] := pick_sub [some 3, some 0, some 1, some 2, some 4] _ rfl
    have hsb : ∀ x ∈ fl ([[b0_9]] ++ [(fl [[b18], [b4], [b6], M])]), x ∈ fl [[b18], [b4], [b6], [b0_9], M] := fun x hx => hsb0 x (fl_unfold x hx)
    have hcall := law14_plan_w b0_9 a1_9 c1_9 x8.1 x15.2 a0_16 c0_16 x15.1.1 x15.1.2 _ w20 (fl [[b18], [b4], [b6], M]) (hpk.fold (P := [[b0_9]])) (hf9_2.sub hsb) hf9_1 (hf16_1.sub hsb) hx
    refine x_call 13 #[] #[] [.pointer (some ⟨b0_9, 0, none⟩), .agg #[.slice a0_16 (x15.1.1).length c0_16, .int .i64 x15.1.2]] _ rfl rfl rfl rfl hcall ?_
    rintro v w22 ⟨a0_22, c0_22, rfl, he22, hp22_0, hmn22, hfn22, hf22_1⟩
    clear hcall hx
    refine ⟨.inl rfl, ?_⟩
    have hpk2 : MS w20 ([[b0_9]] ++ [[b18], [b4], [b6], M]) := hms.pick [some 3, some 0, some 1, some 2, some 4] _ rfl
    have hsb2 : ∀ x ∈ fl ([[b0_9]] ++ [[b18], [b4], [b6], M]), x ∈ fl [[b18], [b4], [b6], [b0_9], M] := pick_sub [some 3, some 0, some 1, some 2, some 4] _ rfl
    have hst0 := Stp.call (LS := [[b18], [b4], [b6], [b0_9], M]) (res := [blk a0_22]) (par := [[b0_9]]) (R := [[b18], [b4], [b6], M]) he22 (fun b hb => hsb2 b (fl_left' (P := [[b0_9]]) b hb)) hfn22 (NP.init _ _) (fun x hx => hsb2 x (fl_right' (P := [[b0_9]]) x hx))
    have hsn : ∀ x ∈ fl [blk a0_22, [b18], [b4], [b6], [b0_9], M], x ∈ fl ([blk a0_22] ++ ([[b0_9]] ++ [[b18], [b4], [b6], M])) := pick_sub [some 0, some 2, some 3, some 4, some 1, some 5] _ rfl
    have hst := hst0.res hsn
    replace hb4 := he22.box hb4 ((MS.outs (P := [[b0_9]]) hpk2 1 rfl) _ (List.mem_singleton.2 rfl))
    replace hs_p1_0 := hs_p1_0.step hst
    replace hb6 := he22.box hb6 ((MS.outs (P := [[b0_9]]) hpk2 2 rfl) _ (List.mem_singleton.2 rfl))
    replace hs_p2_1 := hs_p2_1.step hst
    replace hf9_2 := hf9_2.step hst
    replace hf16_1 := hf16_1.step hst
    replace hb18 := he22.box hb18 ((MS.outs (P := [[b0_9]]) hpk2 0 rfl) _ (List.mem_singleton.2 rfl))
    replace hms : MS w22 [blk a0_22, [b18], [b4], [b6], [b0_9], M] := (MS.call (P := [[b0_9]]) (R := [[b18], [b4], [b6], M]) (res := [blk a0_22]) (par := [[b0_9]]) hpk2 he22 hmn22 hfn22 (NP.init _ _)).pick [some 0, some 2, some 3, some 4, some 1, some 5] _ rfl
    have hPf : ∀ b ∈ fl [[b0_9]], w.heap.size ≤ b := FR.mem (ls := [[b0_9]]) (hfr.pick [some 3] _ rfl)
    have hfr2 : FR w.heap.size [blk a0_22, [b18], [b4], [b6], [b0_9]] := (FR.cons (fun b hb => Nat.le_trans hev.size (hfn22.at 0 rfl b hb)) (FR.cons (hfr.at 0 rfl) (FR.cons (hfr.at 1 rfl) (FR.cons (hfr.at 2 rfl) (FR.cons (hfr.at 3 rfl) (FR.nil _))))))
    replace hev := hev.then he22 (fun b hb => .inr (hPf b hb))
    replace hfr := hfr2
    clear hfr2
    replace hf9_1 := hp22_0
    replace hf22_1 := OwnS.plain (M' := fl [blk a0_22, [b18], [b4], [b6], [b0_9], M]) (plain_int _) hf22_1
    clear hpk hsb hsb0 hpk2 hsb2 hst0 hsn hst
    refine x_alloc (z := .agg #[.int .i64 0, .slice none 0 0]) rfl rfl (by kernel_rfl) (fun b24 w24 hq24 hb24 he24 _ => ?_)
    replace hb24 : w24.heap[b24]? = some (.cells #[.int .i64 0, .slice none 0 0] 30 (0, 0)) := hb24
    refine ⟨.inl rfl, ?_⟩
    have hst := Stp.box (ls := [blk a0_22, [b18], [b4], [b6], [b0_9], M]) he24 hq24
    replace hb4 := he24.box hb4 nn
    replace hs_p1_0 := hs_p1_0.step hst
    replace hb6 := he24.box hb6 nn
    replace hs_p2_1 := hs_p2_1.step hst
    replace hf9_1 := he24.box hf9_1 nn
    replace hf9_2 := hf9_2.step hst
    replace hf16_1 := hf16_1.step hst
    replace hb18 := he24.box hb18 nn
    replace hf22_1 := hf22_1.step hst he24 nn2
    replace hms := hms.box he24 hq24 hb24
    replace hfr := hfr.box hev.size hq24
    replace hev := hev.ext he24
    obtain ⟨w26, hr26, hb26, he26⟩ := store_boxagg 0 [.int .i64 x21.1.1, .slice a0_22 (x21.1.2).length c0_22] #[.int .i64 x21.1.1, .slice a0_22 (x21.1.2).length c0_22] tagg30 hb24 rfl rfl rfl
    refine x_store w26 (xv := .pointer (some ⟨b24, 0, none⟩)) (yv := .agg #[.int .i64 x21.1.1, .slice a0_22 (x21.1.2).length c0_22]) rfl rfl rfl rfl hr26 ?_
    refine ⟨.inl rfl, ?_⟩
    have hst := Stp.ev' (ls := [[b24], blk a0_22, [b18], [b4], [b6], [b0_9], M]) he26 (mem_flat 0 rfl)
    replace hb4 := he26.box hb4 (hms.apart 3 0 rfl rfl rfl _ (List.mem_singleton.2 rfl))
    replace hs_p1_0 := hs_p1_0.step hst
    replace hb6 := he26.box hb6 (hms.apart 4 0 rfl rfl rfl _ (List.mem_singleton.2 rfl))
    replace hs_p2_1 := hs_p2_1.step hst
    replace hf9_1 := he26.box hf9_1 (hms.apart 5 0 rfl rfl rfl _ (List.mem_singleton.2 rfl))
    replace hf9_2 := hf9_2.step hst
    replace hf16_1 := hf16_1.step hst
    replace hb18 := he26.box hb18 (hms.apart 2 0 rfl rfl rfl _ (List.mem_singleton.2 rfl))
    replace hf22_1 := hf22_1.step hst he26 (hms.apart 1 0 rfl rfl rfl)
    replace hms := hms.ev he26
    replace hev := hev.then he26 (fun b hb => .inr (hfr.at 0 rfl b hb))
    replace hb24 := hb26
    refine x_end rfl (k_then ?_)
    refine c_join (σ := Int × (List Int) × Option Addr) (fun s => match s with | (e10_j27_1, d23_j27, a23_j27) => [(3, .int .i64 p3), (5, .pointer (some ⟨b4, 0, none⟩)), (6, .pointer (some ⟨b6, 0, none⟩)), (9, .pointer (some ⟨b0_9, 0, none⟩)), (10, .int .i64 i_s10_l13), (11, .pointer (some ⟨b18, 0, none⟩)), (12, .pointer (some ⟨b24, 0, none⟩))]) (fun s w' => match s with | (e10_j27_1, d23_j27, a23_j27) => law14_RollinExact_J27 x8 i_s10_l13 x15 x21 e10_j27_1 d23_j27 = some t13 ∧ Ev [] w w' ∧ MS w' [[b4], [b6], [b0_9], [b18], blk a23_j27, [b24], M] ∧ FR w.heap.size [[b4], [b6], [b0_9], [b18], blk a23_j27, [b24]] ∧ SlR (eProd (eInt .i64) (eProd (eInt .i64) (eProd (eInt .i64) (eInt .i64)))) w' (fl [[b4], [b6], [b0_9], [b18], blk a23_j27, [b24], M]) a_p1_0 c_p1_0 p1_0 ∧ w'.heap[b4]? = some (.cells #[.slice a_p1_0 (p1_0).length c_p1_0, .int .i64 p1_1] 27 (0, 0)) ∧ SlR (eInt .i64) w' (fl [[b4], [b6], [b0_9], [b18], blk a23_j27, [b24], M]) a_p2_1 c_p2_1 p2_1 ∧ w'.heap[b6]? = some (.cells #[.int .i64 p2_0, .slice a_p2_1 (p2_1).length c_p2_1] 30 (0, 0)) ∧ SlR (eInt .i64) w' (fl [[b4], [b6], [b0_9], [b18], blk a23_j27, [b24], M]) a1_9 c1_9 x8.1 ∧ w'.heap[b0_9]? = some (.cells #[.slice a1_9 (x8.1).length c1_9, .int .i64 e10_j27_1] 67 (0, 0)) ∧ SlR (eProd (eInt .i64) (eProd (eInt .i64) (eProd (eInt .i64) (eInt .i64)))) w' (fl [[b4], [b6], [b0_9], [b18], blk a23_j27, [b24], M]) a0_16 c0_16 x15.1.1 ∧ w'.heap[b18]? = some (.cells #[.slice a0_16 (x15.1.1).length c0_16, .int .i64 x15.1.2] 27 (0, 0)) ∧ OwnS (eInt .i64) 3 w' (fl [[b4], [b6], [b0_9], [b18], blk a23_j27, [b24], M]) a23_j27 c0_22 d23_j27 ∧ w'.heap[b24]? = some (.cells #[.int .i64 x21.1.1, .slice a23_j27 (d23_j27).length c0_22] 30 (0, 0))) ?_ ?_
    · refine c_join (σ := Bool) (fun s => match s with | t31__s31_j28 => [(3, .int .i64 p3), (5, .pointer (some ⟨b4, 0, none⟩)), (6, .pointer (some ⟨b6, 0, none⟩)), (9, .pointer (some ⟨b0_9, 0, none⟩)), (10, .int .i64 i_s10_l13), (11, .pointer (some ⟨b18, 0, none⟩)), (12, .pointer (some ⟨b24, 0, none⟩)), (31, .bool t31__s31_j28)]) (fun s w' => match s with | t31__s31_j28 => law14_RollinExact_J28 x8 i_s10_l13 x15 x21 t31__s31_j28 = some t13 ∧ Ev [] w w' ∧ MS w' [[b4], [b6], [b0_9], [b18], blk a0_22, [b24], M] ∧ FR w.heap.size [[b4], [b6], [b0_9], [b18], blk a0_22, [b24]] ∧ SlR (eProd (eInt .i64) (eProd (eInt .i64) (eProd (eInt .i64) (eInt .i64)))) w' (fl [[b4], [b6], [b0_9], [b18], blk a0_22, [b24], M]) a_p1_0 c_p1_0 p1_0 ∧ w'.heap[b4]? = some (.cells #[.slice a_p1_0 (p1_0).length c_p1_0, .int .i64 p1_1] 27 (0, 0)) ∧ SlR (eInt .i64) w' (fl [[b4], [b6], [b0_9], [b18], blk a0_22, [b24], M]) a_p2_1 c_p2_1 p2_1 ∧ w'.heap[b6]? = some (.cells #[.int .i64 p2_0, .slice a_p2_1 (p2_1).length c_p2_1] 30 (0, 0)) ∧ SlR (eInt .i64) w' (fl [[b4], [b6], [b0_9], [b18], blk a0_22, [b24], M]) a1_9 c1_9 x8.1 ∧ w'.heap[b0_9]? = some (.cells #[.slice a1_9 (x8.1).length c1_9, .int .i64 x21.2] 67 (0, 0)) ∧ SlR (eProd (eInt .i64) (eProd (eInt .i64) (eProd (eInt .i64) (eInt .i64)))) w' (fl [[b4], [b6], [b0_9], [b18], blk a0_22, [b24], M]) a0_16 c0_16 x15.1.1 ∧ w'.heap[b18]? = some (.cells #[.slice a0_16 (x15.1.1).length c0_16, .int .i64 x15.1.2] 27 (0, 0)) ∧ OwnS (eInt .i64) 3 w' (fl [[b4], [b6], [b0_9], [b18], blk a0_22, [b24], M]) a0_22 c0_22 x21.1.2 ∧ w'.heap[b24]? = some (.cells #[.int .i64 x21.1.1, .slice a0_22 (x21.1.2).length c0_22] 30 (0, 0))) ?_ ?_
      · refine c_plain ?_
        refine x_pure 3 [(24, .int .i64 i_s10_l13), (25, .bool (i_s10_l13 == 1)), (26, .bool (i_s10_l13 == 1))] _ _ _ (by kernel_rfl) ?_
        refine x_split 26 (i_s10_l13 == 1) rfl (fun hb => ?_) (fun hb => ?_)
        · replace h := ite_t hb h
          refine x_fieldAddr (xv := .pointer (some ⟨b24, 0, none⟩)) (.pointer (some ⟨b24, 1, none⟩)) rfl rfl rfl (reads_field tfld30_1 _ _) ?_
          refine x_load (xv := .pointer (some ⟨b24, 1, none⟩)) (.slice a0_22 (x21.1.2).length c0_22) rfl rfl rfl (reads_box tcell22 hb24 nn 1 _ rfl) ?_
          refine x_len (vs := [.slice a0_22 (x21.1.2).length c0_22]) (.int .i64 ((x21.1.2).length : Int)) rfl rfl rfl (reads_len tsl22 _ _ _ _ _) ?_
          refine x_pure 2 [(30, .bool (decide (((x21.1.2).length : Int) > 0))), (31, .bool (decide (((x21.1.2).length : Int) > 0)))] _ _ _ (by kernel_rfl) ?_
          refine x_end rfl ?_
          have hpk : MS w26 [[b4], [b6], [b0_9], [b18], blk a0_22, [b24], M] := hms.pick [some 3, some 4, some 5, some 2, some 1, some 0, some 6] _ rfl
          have hsu : ∀ x ∈ fl [[b4], [b6], [b0_9], [b18], blk a0_22, [b24], M], x ∈ fl [[b24], blk a0_22, [b18], [b4], [b6], [b0_9], M] := pick_sub [some 3, some 4, some 5, some 2, some 1, some 0, some 6] _ rfl
          replace hs_p1_0 := hs_p1_0.sub hsu
          replace hs_p2_1 := hs_p2_1.sub hsu
          replace hf9_2 := hf9_2.sub hsu
          replace hf16_1 := hf16_1.sub hsu
          replace hf22_1 := hf22_1.sub hsu
          replace hms := hpk
          replace hfr : FR w.heap.size [[b4], [b6], [b0_9], [b18], blk a0_22, [b24]] := hfr.pick [some 3, some 4, some 5, some 2, some 1, some 0] _ rfl
          clear hpk hsu
          exact k_then ⟨decide (((x21.1.2).length : Int) > 0), ⟨rfl, rfl, rfl, rfl, rfl, rfl, rfl, rfl, trivial⟩, h, hev, hms, hfr, hs_p1_0, hb4, hs_p2_1, hb6, hf9_2, hf9_1, hf16_1, hb18, hf22_1, hb24⟩
        replace h := ite_f hb h
        refine x_pure 5 [(27, undef), (28, undef), (29, undef), (30, undef), (31, .bool false)] _ _ _ (by kernel_rfl) ?_
        refine x_end rfl ?_
        have hpk : MS w26 [[b4], [b6], [b0_9], [b18], blk a0_22, [b24], M] := hms.pick [some 3, some 4, some 5, some 2, some 1, some 0, some 6] _ rfl
        have hsu : ∀ x ∈ fl [[b4], [b6], [b0_9], [b18], blk a0_22, [b24], M], x ∈ fl [[b24], blk a0_22, [b18], [b4], [b6], [b0_9], M] := pick_sub [some 3, some 4, some 5, some 2, some 1, some 0, some 6] _ rfl
        replace hs_p1_0 := hs_p1_0.sub hsu
        replace hs_p2_1 := hs_p2_1.sub hsu
        replace hf9_2 := hf9_2.sub hsu
        replace hf16_1 := hf16_1.sub hsu
        replace hf22_1 := hf22_1.sub hsu
        replace hms := hpk
        replace hfr : FR w.heap.size [[b4], [b6], [b0_9], [b18], blk a0_22, [b24]] := hfr.pick [some 3, some 4, some 5, some 2, some 1, some 0] _ rfl
        clear hpk hsu
        exact k_then ⟨false, ⟨rfl, rfl, rfl, rfl, rfl, rfl, rfl, rfl, trivial⟩, h, hev, hms, hfr, hs_p1_0, hb4, hs_p2_1, hb6, hf9_2, hf9_1, hf16_1, hb18, hf22_1, hb24⟩
      rintro t31__s31_j28 J wj28 ⟨h, hev, hms, hfr, hs_p1_0, hb4, hs_p2_1, hb6, hf9_2, hf9_1, hf16_1, hb18, hf22_1, hb24⟩
      refine c_cond t31__s31_j28 rfl (fun hb => ?_) (fun hb => ?_)
      · replace h := ite_t hb h
        refine c_drawnp [b0_9] [(0, false), (1, false), (2, false), (3, false), (4, false), (5, false), (7, false), (8, false), (9, false), (10, false)] (.alt 6 false (opsThen [(11, false), (12, false), (13, false), (14, true)] .stop) (.alt 11 false (opsThen [(6, false), (12, false), (13, false), (14, true)] .stop) .none_)) _ (by kernel_rfl) rfl ?_
        have hst := Stp.ext (ls := [[b4], [b6], [b0_9], [b18], blk a0_22, [b24], M]) (Ev.drew wj28)
        replace hb4 := (Ev.drew wj28).box hb4 nn
        replace hs_p1_0 := hs_p1_0.step hst
        replace hb6 := (Ev.drew wj28).box hb6 nn
        replace hs_p2_1 := hs_p2_1.step hst
        replace hf9_1 := (Ev.drew wj28).box hf9_1 nn
        replace hf9_2 := hf9_2.step hst
        replace hb18 := (Ev.drew wj28).box hb18 nn
        replace hf16_1 := hf16_1.step hst
        replace hb24 := (Ev.drew wj28).box hb24 nn
        replace hf22_1 := hf22_1.step hst (Ev.drew wj28) nn2
        replace hms := hms.ev (Ev.drew wj28)
        replace hev := hev.ext (Ev.drew wj28)
        refine x_fieldAddr (xv := .pointer (some ⟨b24, 0, none⟩)) (.pointer (some ⟨b24, 1, none⟩)) rfl rfl rfl (reads_field tfld30_1 _ _) ?_
        refine x_load (xv := .pointer (some ⟨b24, 1, none⟩)) (.slice a0_22 (x21.1.2).length c0_22) rfl rfl rfl (reads_box tcell22 hb24 ((hms.apart 5 2 rfl rfl rfl) _ (List.mem_singleton.2 rfl)) 1 _ rfl) ?_
        refine x_pure 1 [(34, .pointer (some ⟨b0_9, 0, none⟩))] _ _ _ (by kernel_rfl) ?_
        refine x_fieldAddr (xv := .pointer (some ⟨b24, 0, none⟩)) (.pointer (some ⟨b24, 1, none⟩)) rfl rfl rfl (reads_field tfld30_1 _ _) ?_
        refine x_load (xv := .pointer (some ⟨b24, 1, none⟩)) (.slice a0_22 (x21.1.2).length c0_22) rfl rfl rfl (reads_box tcell22 hb24 ((hms.apart 5 2 rfl rfl rfl) _ (List.mem_singleton.2 rfl)) 1 _ rfl) ?_
        refine x_len (vs := [.slice a0_22 (x21.1.2).length c0_22]) (.int .i64 ((x21.1.2).length : Int)) rfl rfl rfl (reads_len tsl22 _ _ _ _ _) ?_
        refine x_pure 1 [(39, .pointer (some ⟨b0_9, 0, none⟩))] _ _ _ (by kernel_rfl) ?_
        refine x_fieldAddr (xv := .pointer (some ⟨b24, 0, none⟩)) (.pointer (some ⟨b24, 0, none⟩)) rfl rfl rfl (reads_field tfld30_0 _ _) ?_
        refine x_load (xv := .pointer (some ⟨b24, 0, none⟩)) (.int .i64 x21.1.1) rfl rfl rfl (reads_box tcell3 hb24 ((hms.apart 5 2 rfl rfl rfl) _ (List.mem_singleton.2 rfl)) 0 _ rfl) ?_
        refine x_binop (.int .i64 (IntKind.i64.wrap (1 * 2 ^ (min (Int.toNat (x21.1.1)) IntKind.i64.bits)))) (.int .i64 1) (.int .i64 x21.1.1) rfl rfl rfl rfl (vb_shl (guard_l h)) ?_
        replace h := guard_r h
        refine x_end rfl ?_
        refine t_alt _ rfl ?_ ?_
        · obtain ⟨x29, hx, h⟩ := bind_some h
          have hpk : MS (wj28).drew ([[b0_9]] ++ [[b4], [b6], [b18], blk a0_22, [b24], M]) := hms.pick [some 2, some 0, some 1, some 3, some 4, some 5, some 6] _ rfl
          have hsb0 : ∀ x ∈ fl ([[b0_9]] ++ [[b4], [b6], [b18], blk a0_22, [b24], M]), x ∈ fl [[b4], [b6], [b0_9], [b18], blk a0_22, [b24], M] := pick_sub [some 2, some 0, some 1, some 3, some 4, some 5, some 6] _ rfl
          have hsb : ∀ x ∈ fl ([[b0_9]] ++ [(fl [[b4], [b6], [b18], blk a0_22, [b24], M])]), x ∈ fl [[b4], [b6], [b0_9], [b18], blk a0_22, [b24], M] := fun x hx => hsb0 x (fl_unfold x hx)
          have hcall := gen_Maker_Next_w b0_9 a1_9 c1_9 x8.1 x21.2 ((x21.1.2).length : Int) _ (wj28).drew (fl [[b4], [b6], [b18], blk a0_22, [b24], M]) (hpk.fold (P := [[b0_9]])) (hf9_2.sub hsb) hf9_1 hx
          refine x_call 23 #[] #[] [.pointer (some ⟨b0_9, 0, none⟩), .int .i64 ((x21.1.2).length : Int)] _ rfl rfl rfl rfl hcall ?_
          rintro v w30 ⟨rfl, he30, hp30_0⟩
          clear hcall hx
          refine ⟨.inr he30, ?_⟩
          have hpk2 : MS (wj28).drew ([[b0_9]] ++ [[b4], [b6], [b18], blk a0_22, [b24], M]) := hms.pick [some 2, some 0, some 1, some 3, some 4, some 5, some 6] _ rfl
          have hsb2 : ∀ x ∈ fl ([[b0_9]] ++ [[b4], [b6], [b18], blk a0_22, [b24], M]), x ∈ fl [[b4], [b6], [b0_9], [b18], blk a0_22, [b24], M] := pick_sub [some 2, some 0, some 1, some 3, some 4, some 5, some 6] _ rfl
          have hst0 := Stp.call (LS := [[b4], [b6], [b0_9], [b18], blk a0_22, [b24], M]) (res := []) (par := [[b0_9]]) (R := [[b4], [b6], [b18], blk a0_22, [b24], M]) he30 (fun b hb => hsb2 b (fl_left' (P := [[b0_9]]) b hb)) (FR.nil _) (NP.init _ _) (fun x hx => hsb2 x (fl_right' (P := [[b0_9]]) x hx))
          have hsn : ∀ x ∈ fl [[b4], [b6], [b0_9], [b18], blk a0_22, [b24], M], x ∈ fl ([] ++ ([[b0_9]] ++ [[b4], [b6], [b18], blk a0_22, [b24], M])) := pick_sub [some 1, some 2, some 0, some 3, some 4, some 5, some 6] _ rfl
          have hst := hst0.res hsn
          replace hb4 := he30.box hb4 ((MS.outs (P := [[b0_9]]) hpk2 0 rfl) _ (List.mem_singleton.2 rfl))
          replace hs_p1_0 := hs_p1_0.step hst
          replace hb6 := he30.box hb6 ((MS.outs (P := [[b0_9]]) hpk2 1 rfl) _ (List.mem_singleton.2 rfl))
          replace hs_p2_1 := hs_p2_1.step hst
          replace hf9_2 := hf9_2.step hst
          replace hb18 := he30.box hb18 ((MS.outs (P := [[b0_9]]) hpk2 2 rfl) _ (List.mem_singleton.2 rfl))
          replace hf16_1 := hf16_1.step hst
          replace hb24 := he30.box hb24 ((MS.outs (P := [[b0_9]]) hpk2 4 rfl) _ (List.mem_singleton.2 rfl))
          replace hf22_1 := hf22_1.step hst he30 (MS.outs (P := [[b0_9]]) hpk2 3 rfl)
          replace hms := hms.ev he30
          have hPf : ∀ b ∈ fl [[b0_9]], w.heap.size ≤ b := FR.mem (ls := [[b0_9]]) (hfr.pick [some 2] _ rfl)
          replace hev := hev.then he30 (fun b hb => .inr (hPf b hb))
          replace hf9_1 := hp30_0
          clear hpk hsb hsb0 hpk2 hsb2 hst0 hsn hst
          refine x_buildSlice (vs := [(0, .int .i64 (-1)), (1, .int .i64 0), (2, .int .i64 1), (3, .int .i64 3), (4, .int .i64 (IntKind.i64.wrap (1 * 2 ^ (min (Int.toNat (x21.1.1)) IntKind.i64.bits))))]) #[.int .i64 (-1), .int .i64 0, .int .i64 1, .int .i64 3, .int .i64 (IntKind.i64.wrap (1 * 2 ^ (min (Int.toNat (x21.1.1)) IntKind.i64.bits)))] 3 rfl rfl rfl (by kernel_rfl) (fun b31 w31 hq31 hb31 he31 _ => ?_)
          refine ⟨.inr (he31.nil), ?_⟩
          have hms0 := hms
          have hst := Stp.ext (ls := [[b4], [b6], [b0_9], [b18], blk a0_22, [b24], M]) he31
          replace hb4 := he31.box hb4 nn
          replace hs_p1_0 := hs_p1_0.step hst
          replace hb6 := he31.box hb6 nn
          replace hs_p2_1 := hs_p2_1.step hst
          replace hf9_1 := he31.box hf9_1 nn
          replace hf9_2 := hf9_2.step hst
          replace hb18 := he31.box hb18 nn
          replace hf16_1 := hf16_1.step hst
          replace hb24 := he31.box hb24 nn
          replace hf22_1 := hf22_1.step hst he31 nn2
          replace hms := hms.ev he31
          replace hev := hev.ext he31
          have hs31 : SlR (eInt .i64) w31 (fl [[b4], [b6], [b0_9], [b18], blk a0_22, [b24], M]) (some ⟨b31, 0, none⟩) 5 ([(-1), 0, 1, 3, IntKind.i64.wrap (1 * 2 ^ (min (Int.toNat (x21.1.1)) IntKind.i64.bits))]) := ro_of_box hms0 hq31 hb31 rfl rfl (cells_at (cs := [.int .i64 (-1), .int .i64 0, .int .i64 1, .int .i64 3, .int .i64 (IntKind.i64.wrap (1 * 2 ^ (min (Int.toNat (x21.1.1)) IntKind.i64.bits)))]) (CellsOf.cons (c := [.int .i64 (-1)]) rfl (CellsOf.cons (c := [.int .i64 0]) rfl (CellsOf.cons (c := [.int .i64 1]) rfl (CellsOf.cons (c := [.int .i64 3]) rfl (CellsOf.cons (c := [.int .i64 (IntKind.i64.wrap (1 * 2 ^ (min (Int.toNat (x21.1.1)) IntKind.i64.bits)))]) rfl CellsOf.nil))))))
          clear hb31 hms0
          obtain ⟨x33, hx, h⟩ := bind_some h
          have hpk : MS w31 ([[b0_9]] ++ [[b4], [b6], [b18], blk a0_22, [b24], M]) := hms.pick [some 2, some 0, some 1, some 3, some 4, some 5, some 6] _ rfl
          have hsb0 : ∀ x ∈ fl ([[b0_9]] ++ [[b4], [b6], [b18], blk a0_22, [b24], M]), x ∈ fl [[b4], [b6], [b0_9], [b18], blk a0_22, [b24], M] := pick_sub [some 2, some 0, some 1, some 3, some 4, some 5, some 6] _ rfl
          have hsb : ∀ x ∈ fl ([[b0_9]] ++ [(fl [[b4], [b6], [b18], blk a0_22, [b24], M])]), x ∈ fl [[b4], [b6], [b0_9], [b18], blk a0_22, [b24], M] := fun x hx => hsb0 x (fl_unfold x hx)
          have hcall := gen_Maker_Pick_w b0_9 a1_9 c1_9 x8.1 x29.2 (some ⟨b31, 0, none⟩) 5 ([(-1), 0, 1, 3, IntKind.i64.wrap (1 * 2 ^ (min (Int.toNat (x21.1.1)) IntKind.i64.bits))]) _ w31 (fl [[b4], [b6], [b18], blk a0_22, [b24], M]) (hpk.fold (P := [[b0_9]])) (hf9_2.sub hsb) hf9_1 (hs31.sub hsb) hx
          refine x_call 22 #[] #[] [.pointer (some ⟨b0_9, 0, none⟩), .slice (some ⟨b31, 0, none⟩) ([(-1), 0, 1, 3, IntKind.i64.wrap (1 * 2 ^ (min (Int.toNat (x21.1.1)) IntKind.i64.bits))]).length 5] _ rfl rfl rfl rfl hcall ?_
          rintro v w34 ⟨rfl, he34, hp34_0⟩
          clear hcall hx
          refine ⟨.inr he34, ?_⟩
          have hpk2 : MS w31 ([[b0_9]] ++ [[b4], [b6], [b18], blk a0_22, [b24], M]) := hms.pick [some 2, some 0, some 1, some 3, some 4, some 5, some 6] _ rfl
          have hsb2 : ∀ x ∈ fl ([[b0_9]] ++ [[b4], [b6], [b18], blk a0_22, [b24], M]), x ∈ fl [[b4], [b6], [b0_9], [b18], blk a0_22, [b24], M] := pick_sub [some 2, some 0, some 1, some 3, some 4, some 5, some 6] _ rfl
          have hst0 := Stp.call (LS := [[b4], [b6], [b0_9], [b18], blk a0_22, [b24], M]) (res := []) (par := [[b0_9]]) (R := [[b4], [b6], [b18], blk a0_22, [b24], M]) he34 (fun b hb => hsb2 b (fl_left' (P := [[b0_9]]) b hb)) (FR.nil _) (NP.init _ _) (fun x hx => hsb2 x (fl_right' (P := [[b0_9]]) x hx))
          have hsn : ∀ x ∈ fl [[b4], [b6], [b0_9], [b18], blk a0_22, [b24], M], x ∈ fl ([] ++ ([[b0_9]] ++ [[b4], [b6], [b18], blk a0_22, [b24], M])) := pick_sub [some 1, some 2, some 0, some 3, some 4, some 5, some 6] _ rfl
          have hst := hst0.res hsn
          replace hb4 := he34.box hb4 ((MS.outs (P := [[b0_9]]) hpk2 0 rfl) _ (List.mem_singleton.2 rfl))
          replace hs_p1_0 := hs_p1_0.step hst
          replace hb6 := he34.box hb6 ((MS.outs (P := [[b0_9]]) hpk2 1 rfl) _ (List.mem_singleton.2 rfl))
          replace hs_p2_1 := hs_p2_1.step hst
          replace hf9_2 := hf9_2.step hst
          replace hb18 := he34.box hb18 ((MS.outs (P := [[b0_9]]) hpk2 2 rfl) _ (List.mem_singleton.2 rfl))
          replace hf16_1 := hf16_1.step hst
          replace hb24 := he34.box hb24 ((MS.outs (P := [[b0_9]]) hpk2 4 rfl) _ (List.mem_singleton.2 rfl))
          replace hf22_1 := hf22_1.step hst he34 (MS.outs (P := [[b0_9]]) hpk2 3 rfl)
          replace hs31 := hs31.step hst
          replace hms := hms.ev he34
          have hPf : ∀ b ∈ fl [[b0_9]], w.heap.size ≤ b := FR.mem (ls := [[b0_9]]) (hfr.pick [some 2] _ rfl)
          replace hev := hev.then he34 (fun b hb => .inr (hPf b hb))
          replace hf9_1 := hp34_0
          clear hpk hsb hsb0 hpk2 hsb2 hst0 hsn hst
          obtain ⟨x35, hx35, h⟩ := bind_some h
          obtain ⟨g35, cs35, ha, hr35, hc35, hR⟩ := own_index (Mo := [b0_9]) tsl22 hf22_1 hx35
          subst ha
          obtain rfl := hR
          refine x_indexAddr (xv := .slice (some ⟨g35, 0, none⟩) (x21.1.2).length c0_22) (yv := .int .i64 x29.1) (.pointer (some ⟨g35, (Int.toNat x29.1) * (eInt .i64).n, none⟩)) rfl rfl rfl rfl hr35 ?_
          obtain ⟨w37, hr37, he37, ho37⟩ := own_store (y := x33.1) 0 (.int .i64 x33.1) tcell3 hf22_1 (mem_flat 4 rfl _ (List.mem_singleton.2 rfl)) hx35 rfl rfl (fun _ _ _ _ => by simp_all [eInt, eBool])
          refine x_store w37 (xv := .pointer (some ⟨g35, (Int.toNat x29.1) * (eInt .i64).n, none⟩)) (yv := .int .i64 x33.1) rfl rfl rfl rfl hr37 ?_
          refine ⟨.inl rfl, ?_⟩
          have hst := Stp.ev' (ls := [[b4], [b6], [b0_9], [b18], blk (some ⟨g35, 0, none⟩), [b24], M]) he37 (mem_flat 4 rfl)
          replace hb4 := he37.box hb4 (hms.apart 0 4 rfl rfl rfl _ (List.mem_singleton.2 rfl))
          replace hs_p1_0 := hs_p1_0.step hst
          replace hb6 := he37.box hb6 (hms.apart 1 4 rfl rfl rfl _ (List.mem_singleton.2 rfl))
          replace hs_p2_1 := hs_p2_1.step hst
          replace hf9_1 := he37.box hf9_1 (hms.apart 2 4 rfl rfl rfl _ (List.mem_singleton.2 rfl))
          replace hf9_2 := hf9_2.step hst
          replace hb18 := he37.box hb18 (hms.apart 3 4 rfl rfl rfl _ (List.mem_singleton.2 rfl))
          replace hf16_1 := hf16_1.step hst
          replace hb24 := he37.box hb24 (hms.apart 5 4 rfl rfl rfl _ (List.mem_singleton.2 rfl))
          replace hs31 := hs31.step hst
          replace hms := hms.ev he37
          replace hev := hev.then he37 (fun b hb => .inr (hfr.at 4 rfl b hb))
          replace hf22_1 := ho37
          have hsl : (Value.slice (some ⟨g35, 0, none⟩) (x21.1.2).length c0_22) = (Value.slice (some ⟨g35, 0, none⟩) ((x21.1.2.set (Int.toNat x29.1) x33.1)).length c0_22) := by rw [List.length_set]
          rw [hsl] at hb24
          try rw [hsl]
          clear hsl
          refine x_end rfl ?_
          refine t_stop ?_
          exact k_then ⟨(x33.2, (x21.1.2.set (Int.toNat x29.1) x33.1), (some ⟨g35, 0, none⟩)), ⟨rfl, rfl, rfl, rfl, rfl, rfl, rfl, trivial⟩, h, hev, hms, hfr, hs_p1_0, hb4, hs_p2_1, hb6, hf9_2, hf9_1, hf16_1, hb18, hf22_1, hb24⟩
        refine t_alt _ rfl ?_ ?_
        · refine x_buildSlice (vs := [(0, .int .i64 (-1)), (1, .int .i64 0), (2, .int .i64 1), (3, .int .i64 3), (4, .int .i64 (IntKind.i64.wrap (1 * 2 ^ (min (Int.toNat (x21.1.1)) IntKind.i64.bits))))]) #[.int .i64 (-1), .int .i64 0, .int .i64 1, .int .i64 3, .int .i64 (IntKind.i64.wrap (1 * 2 ^ (min (Int.toNat (x21.1.1)) IntKind.i64.bits)))] 3 rfl rfl rfl (by kernel_rfl) (fun b29 w29 hq29 hb29 he29 _ => ?_)
          refine ⟨.inr (he29.nil), ?_⟩
          have hms0 := hms
          have hst := Stp.ext (ls := [[b4], [b6], [b0_9], [b18], blk a0_22, [b24], M]) he29
          replace hb4 := he29.box hb4 nn
          replace hs_p1_0 := hs_p1_0.step hst
          replace hb6 := he29.box hb6 nn
          replace hs_p2_1 := hs_p2_1.step hst
          replace hf9_1 := he29.box hf9_1 nn
          replace hf9_2 := hf9_2.step hst
          replace hb18 := he29.box hb18 nn
          replace hf16_1 := hf16_1.step hst
          replace hb24 := he29.box hb24 nn
          replace hf22_1 := hf22_1.step hst he29 nn2
          replace hms := hms.ev he29
          replace hev := hev.ext he29
          have hs29 : SlR (eInt .i64) w29 (fl [[b4], [b6], [b0_9], [b18], blk a0_22, [b24], M]) (some ⟨b29, 0, none⟩) 5 ([(-1), 0, 1, 3, IntKind.i64.wrap (1 * 2 ^ (min (Int.toNat (x21.1.1)) IntKind.i64.bits))]) := ro_of_box hms0 hq29 hb29 rfl rfl (cells_at (cs := [.int .i64 (-1), .int .i64 0, .int .i64 1, .int .i64 3, .int .i64 (IntKind.i64.wrap (1 * 2 ^ (min (Int.toNat (x21.1.1)) IntKind.i64.bits)))]) (CellsOf.cons (c := [.int .i64 (-1)]) rfl (CellsOf.cons (c := [.int .i64 0]) rfl (CellsOf.cons (c := [.int .i64 1]) rfl (CellsOf.cons (c := [.int .i64 3]) rfl (CellsOf.cons (c := [.int .i64 (IntKind.i64.wrap (1 * 2 ^ (min (Int.toNat (x21.1.1)) IntKind.i64.bits)))]) rfl CellsOf.nil))))))
          clear hb29 hms0
          obtain ⟨x31, hx, h⟩ := bind_some h
          have hpk : MS w29 ([[b0_9]] ++ [[b4], [b6], [b18], blk a0_22, [b24], M]) := hms.pick [some 2, some 0, some 1, some 3, some 4, some 5, some 6] _ rfl
          have hsb0 : ∀ x ∈ fl ([[b0_9]] ++ [[b4], [b6], [b18], blk a0_22, [b24], M]), x ∈ fl [[b4], [b6], [b0_9], [b18], blk a0_22, [b24], M] := pick_sub [some 2, some 0, some 1, some 3, some 4, some 5, some 6] _ rfl
          have hsb : ∀ x ∈ fl ([[b0_9]] ++ [(fl [[b4], [b6], [b18], blk a0_22, [b24], M])]), x ∈ fl [[b4], [b6], [b0_9], [b18], blk a0_22, [b24], M] := fun x hx => hsb0 x (fl_unfold x hx)
          have hcall := gen_Maker_Next_w b0_9 a1_9 c1_9 x8.1 x21.2 ((x21.1.2).length : Int) _ w29 (fl [[b4], [b6], [b18], blk a0_22, [b24], M]) (hpk.fold (P := [[b0_9]])) (hf9_2.sub hsb) hf9_1 hx
          refine x_call 23 #[] #[] [.pointer (some ⟨b0_9, 0, none⟩), .int .i64 ((x21.1.2).length : Int)] _ rfl rfl rfl rfl hcall ?_
          rintro v w32 ⟨rfl, he32, hp32_0⟩
          clear hcall hx
          refine ⟨.inr he32, ?_⟩
          have hpk2 : MS w29 ([[b0_9]] ++ [[b4], [b6], [b18], blk a0_22, [b24], M]) := hms.pick [some 2, some 0, some 1, some 3, some 4, some 5, some 6] _ rfl
          have hsb2 : ∀ x ∈ fl ([[b0_9]] ++ [[b4], [b6], [b18], blk a0_22, [b24], M]), x ∈ fl [[b4], [b6], [b0_9], [b18], blk a0_22, [b24], M] := pick_sub [some 2, some 0, some 1, some 3, some 4, some 5, some 6] _ rfl
          have hst0 := Stp.call (LS := [[b4], [b6], [b0_9], [b18], blk a0_22, [b24], M]) (res := []) (par := [[b0_9]]) (R := [[b4], [b6], [b18], blk a0_22, [b24], M]) he32 (fun b hb => hsb2 b (fl_left' (P := [[b0_9]]) b hb)) (FR.nil _) (NP.init _ _) (fun x hx => hsb2 x (fl_right' (P := [[b0_9]]) x hx))
          have hsn : ∀ x ∈ fl [[b4], [b6], [b0_9], [b18], blk a0_22, [b24], M], x ∈ fl ([] ++ ([[b0_9]] ++ [[b4], [b6], [b18], blk a0_22, [b24], M])) := pick_sub [some 1, some 2, some 0, some 3, some 4, some 5, some 6] _ rfl
          have hst := hst0.res hsn
          replace hb4 := he32.box hb4 ((MS.outs (P := [[b0_9]]) hpk2 0 rfl) _ (List.mem_singleton.2 rfl))
          replace hs_p1_0 := hs_p1_0.step hst
          replace hb6 := he32.box hb6 ((MS.outs (P := [[b0_9]]) hpk2 1 rfl) _ (List.mem_singleton.2 rfl))
          replace hs_p2_1 := hs_p2_1.step hst
          replace hf9_2 := hf9_2.step hst
          replace hb18 := he32.box hb18 ((MS.outs (P := [[b0_9]]) hpk2 2 rfl) _ (List.mem_singleton.2 rfl))
          replace hf16_1 := hf16_1.step hst
          replace hb24 := he32.box hb24 ((MS.outs (P := [[b0_9]]) hpk2 4 rfl) _ (List.mem_singleton.2 rfl))
          replace hf22_1 := hf22_1.step hst he32 (MS.outs (P := [[b0_9]]) hpk2 3 rfl)
          replace hs29 := hs29.step hst
          replace hms := hms.ev he32
          have hPf : ∀ b ∈ fl [[b0_9]], w.heap.size ≤ b := FR.mem (ls := [[b0_9]]) (hfr.pick [some 2] _ rfl)
          replace hev := hev.then he32 (fun b hb => .inr (hPf b hb))
          replace hf9_1 := hp32_0
          clear hpk hsb hsb0 hpk2 hsb2 hst0 hsn hst
          obtain ⟨x33, hx, h⟩ := bind_some h
          have hpk : MS w32 ([[b0_9]] ++ [[b4], [b6], [b18], blk a0_22, [b24], M]) := hms.pick [some 2, some 0, some 1, some 3, some 4, some 5, some 6] _ rfl
          have hsb0 : ∀ x ∈ fl ([[b0_9]] ++ [[b4], [b6], [b18], blk a0_22, [b24], M]), x ∈ fl [[b4], [b6], [b0_9], [b18], blk a0_22, [b24], M] := pick_sub [some 2, some 0, some 1, some 3, some 4, some 5, some 6] _ rfl
          have hsb : ∀ x ∈ fl ([[b0_9]] ++ [(fl [[b4], [b6], [b18], blk a0_22, [b24], M])]), x ∈ fl [[b4], [b6], [b0_9], [b18], blk a0_22, [b24], M] := fun x hx => hsb0 x (fl_unfold x hx)
          have hcall := gen_Maker_Pick_w b0_9 a1_9 c1_9 x8.1 x31.2 (some ⟨b29, 0, none⟩) 5 ([(-1), 0, 1, 3, IntKind.i64.wrap (1 * 2 ^ (min (Int.toNat (x21.1.1)) IntKind.i64.bits))]) _ w32 (fl [[b4], [b6], [b18], blk a0_22, [b24], M]) (hpk.fold (P := [[b0_9]])) (hf9_2.sub hsb) hf9_1 (hs29.sub hsb) hx
          refine x_call 22 #[] #[] [.pointer (some ⟨b0_9, 0, none⟩), .slice (some ⟨b29, 0, none⟩) ([(-1), 0, 1, 3, IntKind.i64.wrap (1 * 2 ^ (min (Int.toNat (x21.1.1)) IntKind.i64.bits))]).length 5] _ rfl rfl rfl rfl hcall ?_
          rintro v w34 ⟨rfl, he34, hp34_0⟩
          clear hcall hx
          refine ⟨.inr he34, ?_⟩
          have hpk2 : MS w32 ([[b0_9]] ++ [[b4], [b6], [b18], blk a0_22, [b24], M]) := hms.pick [some 2, some 0, some 1, some 3, some 4, some 5, some 6] _ rfl
          have hsb2 : ∀ x ∈ fl ([[b0_9]] ++ [[b4], [b6], [b18], blk a0_22, [b24], M]), x ∈ fl [[b4], [b6], [b0_9], [b18], blk a0_22, [b24], M] := pick_sub [some 2, some 0, some 1, some 3, some 4, some 5, some 6] _ rfl
          have hst0 := Stp.call (LS := [[b4], [b6], [b0_9], [b18], blk a0_22, [b24], M]) (res := []) (par := [[b0_9]]) (R := [[b4], [b6], [b18], blk a0_22, [b24], M]) he34 (fun b hb => hsb2 b (fl_left' (P := [[b0_9]]) b hb)) (FR.nil _) (NP.init _ _) (fun x hx => hsb2 x (fl_right' (P := [[b0_9]]) x hx))
          have hsn : ∀ x ∈ fl [[b4], [b6], [b0_9], [b18], blk a0_22, [b24], M], x ∈ fl ([] ++ ([[b0_9]] ++ [[b4], [b6], [b18], blk a0_22, [b24], M])) := pick_sub [some 1, some 2, some 0, some 3, some 4, some 5, some 6] _ rfl
          have hst := hst0.res hsn
          replace hb4 := he34.box hb4 ((MS.outs (P := [[b0_9]]) hpk2 0 rfl) _ (List.mem_singleton.2 rfl))
          replace hs_p1_0 := hs_p1_0.step hst
          replace hb6 := he34.box hb6 ((MS.outs (P := [[b0_9]]) hpk2 1 rfl) _ (List.mem_singleton.2 rfl))
          replace hs_p2_1 := hs_p2_1.step hst
          replace hf9_2 := hf9_2.step hst
          replace hb18 := he34.box hb18 ((MS.outs (P := [[b0_9]]) hpk2 2 rfl) _ (List.mem_singleton.2 rfl))
          replace hf16_1 := hf16_1.step hst
          replace hb24 := he34.box hb24 ((MS.outs (P := [[b0_9]]) hpk2 4 rfl) _ (List.mem_singleton.2 rfl))
          replace hf22_1 := hf22_1.step hst he34 (MS.outs (P := [[b0_9]]) hpk2 3 rfl)
          replace hs29 := hs29.step hst
          replace hms := hms.ev he34
          have hPf : ∀ b ∈ fl [[b0_9]], w.heap.size ≤ b := FR.mem (ls := [[b0_9]]) (hfr.pick [some 2] _ rfl)
          replace hev := hev.then he34 (fun b hb => .inr (hPf b hb))
          replace hf9_1 := hp34_0
          clear hpk hsb hsb0 hpk2 hsb2 hst0 hsn hst
          obtain ⟨x35, hx35, h⟩ := bind_some h
          obtain ⟨g35, cs35, ha, hr35, hc35, hR⟩ := own_index (Mo := [b0_9]) tsl22 hf22_1 hx35
          subst ha
          obtain rfl := hR
          refine x_indexAddr (xv := .slice (some ⟨g35, 0, none⟩) (x21.1.2).length c0_22) (yv := .int .i64 x31.1) (.pointer (some ⟨g35, (Int.toNat x31.1) * (eInt .i64).n, none⟩)) rfl rfl rfl rfl hr35 ?_
          obtain ⟨w37, hr37, he37, ho37⟩ := own_store (y := x33.1) 0 (.int .i64 x33.1) tcell3 hf22_1 (mem_flat 4 rfl _ (List.mem_singleton.2 rfl)) hx35 rfl rfl (fun _ _ _ _ => by simp_all [eInt, eBool])
          refine x_store w37 (xv := .pointer (some ⟨g35, (Int.toNat x31.1) * (eInt .i64).n, none⟩)) (yv := .int .i64 x33.1) rfl rfl rfl rfl hr37 ?_
          refine ⟨.inl rfl, ?_⟩
          have hst := Stp.ev' (ls := [[b4], [b6], [b0_9], [b18], blk (some ⟨g35, 0, none⟩), [b24], M]) he37 (mem_flat 4 rfl)
          replace hb4 := he37.box hb4 (hms.apart 0 4 rfl rfl rfl _ (List.mem_singleton.2 rfl))
          replace hs_p1_0 := hs_p1_0.step hst
          replace hb6 := he37.box hb6 (hms.apart 1 4 rfl rfl rfl _ (List.mem_singleton.2 rfl))
          replace hs_p2_1 := hs_p2_1.step hst
          replace hf9_1 := he37.box hf9_1 (hms.apart 2 4 rfl rfl rfl _ (List.mem_singleton.2 rfl))
          replace hf9_2 := hf9_2.step hst
          replace hb18 := he37.box hb18 (hms.apart 3 4 rfl rfl rfl _ (List.mem_singleton.2 rfl))
          replace hf16_1 := hf16_1.step hst
          replace hb24 := he37.box hb24 (hms.apart 5 4 rfl rfl rfl _ (List.mem_singleton.2 rfl))
          replace hs29 := hs29.step hst
          replace hms := hms.ev he37
          replace hev := hev.then he37 (fun b hb => .inr (hfr.at 4 rfl b hb))
          replace hf22_1 := ho37
          have hsl : (Value.slice (some ⟨g35, 0, none⟩) (x21.1.2).length c0_22) = (Value.slice (some ⟨g35, 0, none⟩) ((x21.1.2.set (Int.toNat x31.1) x33.1)).length c0_22) := by rw [List.length_set]
          rw [hsl] at hb24
          try rw [hsl]
          clear hsl
          refine x_end rfl ?_
          refine t_stop ?_
          exact k_then ⟨(x33.2, (x21.1.2.set (Int.toNat x31.1) x33.1), (some ⟨g35, 0, none⟩)), ⟨rfl, rfl, rfl, rfl, rfl, rfl, rfl, trivial⟩, h, hev, hms, hfr, hs_p1_0, hb4, hs_p2_1, hb6, hf9_2, hf9_1, hf16_1, hb18, hf22_1, hb24⟩
        exact t_none
      replace h := ite_f hb h
      refine c_skip ?_
      exact k_then ⟨(x21.2, x21.1.2, a0_22), ⟨rfl, rfl, rfl, rfl, rfl, rfl, rfl, trivial⟩, h, hev, hms, hfr, hs_p1_0, hb4, hs_p2_1, hb6, hf9_2, hf9_1, hf16_1, hb18, hf22_1, hb24⟩
    rintro ⟨e10_j27_1, d23_j27, a23_j27⟩ J wj27 ⟨h, hev, hms, hfr, hs_p1_0, hb4, hs_p2_1, hb6, hf9_2, hf9_1, hf16_1, hb18, hf22_1, hb24⟩
    refine c_join (σ := Int × Int) (fun s => match s with | (e10_j29_1, e25_j29_0) => [(3, .int .i64 p3), (5, .pointer (some ⟨b4, 0, none⟩)), (6, .pointer (some ⟨b6, 0, none⟩)), (9, .pointer (some ⟨b0_9, 0, none⟩)), (10, .int .i64 i_s10_l13), (11, .pointer (some ⟨b18, 0, none⟩)), (12, .pointer (some ⟨b24, 0, none⟩))]) (fun s w' => match s with | (e10_j29_1, e25_j29_0) => law14_RollinExact_J29 x8 i_s10_l13 x15 d23_j27 e10_j29_1 e25_j29_0 = some t13 ∧ Ev [] w w' ∧ MS w' [[b4], [b6], [b0_9], [b18], blk a23_j27, [b24], M] ∧ FR w.heap.size [[b4], [b6], [b0_9], [b18], blk a23_j27, [b24]] ∧ SlR (eProd (eInt .i64) (eProd (eInt .i64) (eProd (eInt .i64) (eInt .i64)))) w' (fl [[b4], [b6], [b0_9], [b18], blk a23_j27, [b24], M]) a_p1_0 c_p1_0 p1_0 ∧ w'.heap[b4]? = some (.cells #[.slice a_p1_0 (p1_0).length c_p1_0, .int .i64 p1_1] 27 (0, 0)) ∧ SlR (eInt .i64) w' (fl [[b4], [b6], [b0_9], [b18], blk a23_j27, [b24], M]) a_p2_1 c_p2_1 p2_1 ∧ w'.heap[b6]? = some (.cells #[.int .i64 p2_0, .slice a_p2_1 (p2_1).length c_p2_1] 30 (0, 0)) ∧ SlR (eInt .i64) w' (fl [[b4], [b6], [b0_9], [b18], blk a23_j27, [b24], M]) a1_9 c1_9 x8.1 ∧ w'.heap[b0_9]? = some (.cells #[.slice a1_9 (x8.1).length c1_9, .int .i64 e10_j29_1] 67 (0, 0)) ∧ SlR (eProd (eInt .i64) (eProd (eInt .i64) (eProd (eInt .i64) (eInt .i64)))) w' (fl [[b4], [b6], [b0_9], [b18], blk a23_j27, [b24], M]) a0_16 c0_16 x15.1.1 ∧ w'.heap[b18]? = some (.cells #[.slice a0_16 (x15.1.1).length c0_16, .int .i64 x15.1.2] 27 (0, 0)) ∧ OwnS (eInt .i64) 3 w' (fl [[b4], [b6], [b0_9], [b18], blk a23_j27, [b24], M]) a23_j27 c0_22 d23_j27 ∧ w'.heap[b24]? = some (.cells #[.int .i64 e25_j29_0, .slice a23_j27 (d23_j27).length c0_22] 30 (0, 0))) ?_ ?_
    · refine c_seq (c_plain ?_)
      refine x_pure 2 [(46, .int .i64 i_s10_l13), (47, .bool (i_s10_l13 == 2))] _ _ _ (by kernel_rfl) ?_
      refine x_end rfl (k_then ?_)
      refine c_norm [(3, .int .i64 p3), (5, .pointer (some ⟨b4, 0, none⟩)), (6, .pointer (some ⟨b6, 0, none⟩)), (9, .pointer (some ⟨b0_9, 0, none⟩)), (10, .int .i64 i_s10_l13), (11, .pointer (some ⟨b18, 0, none⟩)), (12, .pointer (some ⟨b24, 0, none⟩)), (47, .bool (i_s10_l13 == 2))] ⟨rfl, rfl, rfl, rfl, rfl, rfl, rfl, rfl, trivial⟩ (fun J => ?_)
      refine c_cond (i_s10_l13 == 2) rfl (fun hb => ?_) (fun hb => ?_)
      · replace h := ite_t hb h
        refine c_drawn [b0_9] [(0, false), (1, false), (2, false), (3, false), (4, false), (5, false), (6, false), (7, true)] _ (by kernel_rfl) rfl ?_
        have hst := Stp.ext (ls := [[b4], [b6], [b0_9], [b18], blk a23_j27, [b24], M]) (Ev.drew wj27)
        replace hb4 := (Ev.drew wj27).box hb4 nn
        replace hs_p1_0 := hs_p1_0.step hst
        replace hb6 := (Ev.drew wj27).box hb6 nn
        replace hs_p2_1 := hs_p2_1.step hst
        replace hf9_1 := (Ev.drew wj27).box hf9_1 nn
        replace hf9_2 := hf9_2.step hst
        replace hb18 := (Ev.drew wj27).box hb18 nn
        replace hf16_1 := hf16_1.step hst
        replace hb24 := (Ev.drew wj27).box hb24 nn
        replace hf22_1 := hf22_1.step hst (Ev.drew wj27) nn2
        replace hms := hms.ev (Ev.drew wj27)
        replace hev := hev.ext (Ev.drew wj27)
        refine x_fieldAddr (xv := .pointer (some ⟨b24, 0, none⟩)) (.pointer (some ⟨b24, 0, none⟩)) rfl rfl rfl (reads_field tfld30_0 _ _) ?_
        refine x_load (xv := .pointer (some ⟨b24, 0, none⟩)) (.int .i64 x21.1.1) rfl rfl rfl (reads_box tcell3 hb24 ((hms.apart 5 2 rfl rfl rfl) _ (List.mem_singleton.2 rfl)) 0 _ rfl) ?_
        refine x_pure 1 [(50, .pointer (some ⟨b0_9, 0, none⟩))] _ _ _ (by kernel_rfl) ?_
        refine x_buildSlice (vs := [(0, .int .i64 (-1)), (1, .int .i64 1), (2, .int .i64 13)]) #[.int .i64 (-1), .int .i64 1, .int .i64 13] 3 rfl rfl rfl (by kernel_rfl) (fun b30 w30 hq30 hb30 he30 _ => ?_)
        refine ⟨.inr (he30.nil), ?_⟩
        have hms0 := hms
        have hst := Stp.ext (ls := [[b4], [b6], [b0_9], [b18], blk a23_j27, [b24], M]) he30
        replace hb4 := he30.box hb4 nn
        replace hs_p1_0 := hs_p1_0.step hst
        replace hb6 := he30.box hb6 nn
        replace hs_p2_1 := hs_p2_1.step hst
        replace hf9_1 := he30.box hf9_1 nn
        replace hf9_2 := hf9_2.step hst
        replace hb18 := he30.box hb18 nn
        replace hf16_1 := hf16_1.step hst
        replace hb24 := he30.box hb24 nn
        replace hf22_1 := hf22_1.step hst he30 nn2
        replace hms := hms.ev he30
        replace hev := hev.ext he30
        have hs30 : SlR (eInt .i64) w30 (fl [[b4], [b6], [b0_9], [b18], blk a23_j27, [b24], M]) (some ⟨b30, 0, none⟩) 3 ([(-1), 1, 13]) := ro_of_box hms0 hq30 hb30 rfl rfl (cells_at (cs := [.int .i64 (-1), .int .i64 1, .int .i64 13]) (CellsOf.cons (c := [.int .i64 (-1)]) rfl (CellsOf.cons (c := [.int .i64 1]) rfl (CellsOf.cons (c := [.int .i64 13]) rfl CellsOf.nil))))
        clear hb30 hms0
        obtain ⟨x32, hx, h⟩ := bind_some h
        have hpk : MS w30 ([[b0_9]] ++ [[b4], [b6], [b18], blk a23_j27, [b24], M]) := hms.pick [some 2, some 0, some 1, some 3, some 4, some 5, some 6] _ rfl
        have hsb0 : ∀ x ∈ fl ([[b0_9]] ++ [[b4], [b6], [b18], blk a23_j27, [b24], M]), x ∈ fl [[b4], [b6], [b0_9], [b18], blk a23_j27, [b24], M] := pick_sub [some 2, some 0, some 1, some 3, some 4, some 5, some 6] _ rfl
        have hsb : ∀ x ∈ fl ([[b0_9]] ++ [(fl [[b4], [b6], [b18], blk a23_j27, [b24], M])]), x ∈ fl [[b4], [b6], [b0_9], [b18], blk a23_j27, [b24], M] := fun x hx => hsb0 x (fl_unfold x hx)
        have hcall := gen_Maker_Pick_w b0_9 a1_9 c1_9 x8.1 e10_j27_1 (some ⟨b30, 0, none⟩) 3 ([(-1), 1, 13]) _ w30 (fl [[b4], [b6], [b18], blk a23_j27, [b24], M]) (hpk.fold (P := [[b0_9]])) (hf9_2.sub hsb) hf9_1 (hs30.sub hsb) hx
        refine x_call 22 #[] #[] [.pointer (some ⟨b0_9, 0, none⟩), .slice (some ⟨b30, 0, none⟩) ([(-1), 1, 13]).length 3] _ rfl rfl rfl rfl hcall ?_
        rintro v w33 ⟨rfl, he33, hp33_0⟩
        clear hcall hx
        refine ⟨.inr he33, ?_⟩
        have hpk2 : MS w30 ([[b0_9]] ++ [[b4], [b6], [b18], blk a23_j27, [b24], M]) := hms.pick [some 2, some 0, some 1, some 3, some 4, some 5, some 6] _ rfl
        have hsb2 : ∀ x ∈ fl ([[b0_9]] ++ [[b4], [b6], [b18], blk a23_j27, [b24], M]), x ∈ fl [[b4], [b6], [b0_9], [b18], blk a23_j27, [b24], M] := pick_sub [some 2, some 0, some 1, some 3, some 4, some 5, some 6] _ rfl
        have hst0 := Stp.call (LS := [[b4], [b6], [b0_9], [b18], blk a23_j27, [b24], M]) (res := []) (par := [[b0_9]]) (R := [[b4], [b6], [b18], blk a23_j27, [b24], M]) he33 (fun b hb => hsb2 b (fl_left' (P := [[b0_9]]) b hb)) (FR.nil _) (NP.init _ _) (fun x hx => hsb2 x (fl_right' (P := [[b0_9]]) x hx))
        have hsn : ∀ x ∈ fl [[b4], [b6], [b0_9], [b18], blk a23_j27, [b24], M], x ∈ fl ([] ++ ([[b0_9]] ++ [[b4], [b6], [b18], blk a23_j27, [b24], M])) := pick_sub [some 1, some 2, some 0, some 3, some 4, some 5, some 6] _ rfl
        have hst := hst0.res hsn
        replace hb4 := he33.box hb4 ((MS.outs (P := [[b0_9]]) hpk2 0 rfl) _ (List.mem_singleton.2 rfl))
        replace hs_p1_0 := hs_p1_0.step hst
        replace hb6 := he33.box hb6 ((MS.outs (P := [[b0_9]]) hpk2 1 rfl) _ (List.mem_singleton.2 rfl))
        replace hs_p2_1 := hs_p2_1.step hst
        replace hf9_2 := hf9_2.step hst
        replace hb18 := he33.box hb18 ((MS.outs (P := [[b0_9]]) hpk2 2 rfl) _ (List.mem_singleton.2 rfl))
        replace hf16_1 := hf16_1.step hst
        replace hb24 := he33.box hb24 ((MS.outs (P := [[b0_9]]) hpk2 4 rfl) _ (List.mem_singleton.2 rfl))
        replace hf22_1 := hf22_1.step hst he33 (MS.outs (P := [[b0_9]]) hpk2 3 rfl)
        replace hs30 := hs30.step hst
        replace hms := hms.ev he33
        have hPf : ∀ b ∈ fl [[b0_9]], w.heap.size ≤ b := FR.mem (ls := [[b0_9]]) (hfr.pick [some 2] _ rfl)
        replace hev := hev.then he33 (fun b hb => .inr (hPf b hb))
        replace hf9_1 := hp33_0
        clear hpk hsb hsb0 hpk2 hsb2 hst0 hsn hst
        refine x_pure 1 [(53, .int .i64 (IntKind.i64.wrap (x21.1.1 + x32.1)))] _ _ _ (by kernel_rfl) ?_
        refine x_fieldAddr (xv := .pointer (some ⟨b24, 0, none⟩)) (.pointer (some ⟨b24, 0, none⟩)) rfl rfl rfl (reads_field tfld30_0 _ _) ?_
        obtain ⟨w34, hr34, hb34, he34⟩ := store_box 0 (.int .i64 (IntKind.i64.wrap (x21.1.1 + x32.1))) #[.int .i64 (IntKind.i64.wrap (x21.1.1 + x32.1)), .slice a23_j27 (d23_j27).length c0_22] tcell3 hb24 rfl rfl rfl
        refine x_store w34 (xv := .pointer (some ⟨b24, 0, none⟩)) (yv := .int .i64 (IntKind.i64.wrap (x21.1.1 + x32.1))) rfl rfl rfl rfl hr34 ?_
        refine ⟨.inl rfl, ?_⟩
        have hst := Stp.ev' (ls := [[b4], [b6], [b0_9], [b18], blk a23_j27, [b24], M]) he34 (mem_flat 5 rfl)
        replace hb4 := he34.box hb4 (hms.apart 0 5 rfl rfl rfl _ (List.mem_singleton.2 rfl))
        replace hs_p1_0 := hs_p1_0.step hst
        replace hb6 := he34.box hb6 (hms.apart 1 5 rfl rfl rfl _ (List.mem_singleton.2 rfl))
        replace hs_p2_1 := hs_p2_1.step hst
        replace hf9_1 := he34.box hf9_1 (hms.apart 2 5 rfl rfl rfl _ (List.mem_singleton.2 rfl))
        replace hf9_2 := hf9_2.step hst
        replace hb18 := he34.box hb18 (hms.apart 3 5 rfl rfl rfl _ (List.mem_singleton.2 rfl))
        replace hf16_1 := hf16_1.step hst
        replace hf22_1 := hf22_1.step hst he34 (hms.apart 4 5 rfl rfl rfl)
        replace hs30 := hs30.step hst
        replace hms := hms.ev he34
        replace hev := hev.then he34 (fun b hb => .inr (hfr.at 5 rfl b hb))
        replace hb24 := hb34
        refine x_end rfl ?_
        exact k_then ⟨(x32.2, IntKind.i64.wrap (x21.1.1 + x32.1)), ⟨rfl, rfl, rfl, rfl, rfl, rfl, rfl, trivial⟩, h, hev, hms, hfr, hs_p1_0, hb4, hs_p2_1, hb6, hf9_2, hf9_1, hf16_1, hb18, hf22_1, hb24⟩
      replace h := ite_f hb h
      refine c_skip ?_
      exact k_then ⟨(e10_j27_1, x21.1.1), ⟨rfl, rfl, rfl, rfl, rfl, rfl, rfl, trivial⟩, h, hev, hms, hfr, hs_p1_0, hb4, hs_p2_1, hb6, hf9_2, hf9_1, hf16_1, hb18, hf22_1, hb24⟩
    rintro ⟨e10_j29_1, e25_j29_0⟩ J wj29 ⟨h, hev, hms, hfr, hs_p1_0, hb4, hs_p2_1, hb6, hf9_2, hf9_1, hf16_1, hb18, hf22_1, hb24⟩
    refine c_join (σ := Int × (List (Int × Int × Int × Int)) × Int × Option Addr × Nat) (fun s => match s with | (e10_j35_1, d38_j35, e19_j35_1, a38_j35, c38_j35) => [(3, .int .i64 p3), (5, .pointer (some ⟨b4, 0, none⟩)), (6, .pointer (some ⟨b6, 0, none⟩)), (9, .pointer (some ⟨b0_9, 0, none⟩)), (10, .int .i64 i_s10_l13), (11, .pointer (some ⟨b18, 0, none⟩)), (12, .pointer (some ⟨b24, 0, none⟩))]) (fun s w' => match s with | (e10_j35_1, d38_j35, e19_j35_1, a38_j35, c38_j35) => law14_RollinExact_J35 x8 i_s10_l13 d23_j27 e25_j29_0 e10_j35_1 d38_j35 e19_j35_1 = some t13 ∧ Ev [] w w' ∧ MS w' [[b4], [b6], [b0_9], [b18], blk a23_j27, [b24], M] ∧ FR w.heap.size [[b4], [b6], [b0_9], [b18], blk a23_j27, [b24]] ∧ SlR (eProd (eInt .i64) (eProd (eInt .i64) (eProd (eInt .i64) (eInt .i64)))) w' (fl [[b4], [b6], [b0_9], [b18], blk a23_j27, [b24], M]) a_p1_0 c_p1_0 p1_0 ∧ w'.heap[b4]? = some (.cells #[.slice a_p1_0 (p1_0).length c_p1_0, .int .i64 p1_1] 27 (0, 0)) ∧ SlR (eInt .i64) w' (fl [[b4], [b6], [b0_9], [b18], blk a23_j27, [b24], M]) a_p2_1 c_p2_1 p2_1 ∧ w'.heap[b6]? = some (.cells #[.int .i64 p2_0, .slice a_p2_1 (p2_1).length c_p2_1] 30 (0, 0)) ∧ SlR (eInt .i64) w' (fl [[b4], [b6], [b0_9], [b18], blk a23_j27, [b24], M]) a1_9 c1_9 x8.1 ∧ w'.heap[b0_9]? = some (.cells #[.slice a1_9 (x8.1).length c1_9, .int .i64 e10_j35_1] 67 (0, 0)) ∧ SlR (eProd (eInt .i64) (eProd (eInt .i64) (eProd (eInt .i64) (eInt .i64)))) w' (fl [[b4], [b6], [b0_9], [b18], blk a23_j27, [b24], M]) a38_j35 c38_j35 d38_j35 ∧ w'.heap[b18]? = some (.cells #[.slice a38_j35 (d38_j35).length c38_j35, .int .i64 e19_j35_1] 27 (0, 0)) ∧ OwnS (eInt .i64) 3 w' (fl [[b4], [b6], [b0_9], [b18], blk a23_j27, [b24], M]) a23_j27 c0_22 d23_j27 ∧ w'.heap[b24]? = some (.cells #[.int .i64 e25_j29_0, .slice a23_j27 (d23_j27).length c0_22] 30 (0, 0))) ?_ ?_
    · refine c_seq (c_plain ?_)
      refine x_pure 2 [(55, .int .i64 i_s10_l13), (56, .bool (i_s10_l13 == 3))] _ _ _ (by kernel_rfl) ?_
      refine x_end rfl (k_then ?_)
      refine c_norm [(3, .int .i64 p3), (5, .pointer (some ⟨b4, 0, none⟩)), (6, .pointer (some ⟨b6, 0, none⟩)), (9, .pointer (some ⟨b0_9, 0, none⟩)), (10, .int .i64 i_s10_l13), (11, .pointer (some ⟨b18, 0, none⟩)), (12, .pointer (some ⟨b24, 0, none⟩)), (56, .bool (i_s10_l13 == 3))] ⟨rfl, rfl, rfl, rfl, rfl, rfl, rfl, rfl, trivial⟩ (fun J => ?_)
      refine c_cond (i_s10_l13 == 3) rfl (fun hb => ?_) (fun hb => ?_)
      · replace h := ite_t hb h
        refine c_plain ?_
        refine x_pure 1 [(57, .pointer (some ⟨b0_9, 0, none⟩))] _ _ _ (by kernel_rfl) ?_
        refine x_load (xv := .pointer (some ⟨b18, 0, none⟩)) (.agg #[.slice a0_16 (x15.1.1).length c0_16, .int .i64 x15.1.2]) rfl rfl rfl (reads_boxagg 0 [.slice a0_16 (x15.1.1).length c0_16, .int .i64 x15.1.2] tagg27 hb18 nn rfl) ?_
        obtain ⟨x36, hx, h⟩ := bind_some h
        have hpk : MS wj29 ([[b0_9]] ++ [[b4], [b6], [b18], blk a23_j27, [b24], M]) := hms.pick [some 2, some 0, some 1, some 3, some 4, some 5, some 6] _ rfl
        have hsb0 : ∀ x ∈ fl ([[b0_9]] ++ [[b4], [b6], [b18], blk a23_j27, [b24], M]), x ∈ fl [[b4], [b6], [b0_9], [b18], blk a23_j27, [b24], M] := pick_sub [some 2, some 0, some 1, some 3, some 4, some 5, some 6] _ rfl
        have hsb : ∀ x ∈ fl ([[b0_9]] ++ [(fl [[b4], [b6], [b18], blk a23_j27, [b24], M])]), x ∈ fl [[b4], [b6], [b0_9], [b18], blk a23_j27, [b24], M] := fun x hx => hsb0 x (fl_unfold x hx)
        have hcall := gen_Maker_SpoilJob_w b0_9 a1_9 c1_9 x8.1 e10_j29_1 a0_16 c0_16 x15.1.1 x15.1.2 _ wj29 (fl [[b4], [b6], [b18], blk a23_j27, [b24], M]) (hpk.fold (P := [[b0_9]])) (hf9_2.sub hsb) hf9_1 (hf16_1.sub hsb) hx
        refine x_call 24 #[] #[] [.pointer (some ⟨b0_9, 0, none⟩), .agg #[.slice a0_16 (x15.1.1).length c0_16, .int .i64 x15.1.2]] _ rfl rfl rfl rfl hcall ?_
        rintro v w37 ⟨a0_37, c0_37, rfl, he37, hp37_0, hmn37, hfn37, hf37_1⟩
        clear hcall hx
        refine ⟨.inl rfl, ?_⟩
        have hpk2 : MS wj29 ([[b0_9]] ++ [[b4], [b6], [b18], blk a23_j27, [b24], M]) := hms.pick [some 2, some 0, some 1, some 3, some 4, some 5, some 6] _ rfl
        have hsb2 : ∀ x ∈ fl ([[b0_9]] ++ [[b4], [b6], [b18], blk a23_j27, [b24], M]), x ∈ fl [[b4], [b6], [b0_9], [b18], blk a23_j27, [b24], M] := pick_sub [some 2, some 0, some 1, some 3, some 4, some 5, some 6] _ rfl
        have hst0 := Stp.call (LS := [[b4], [b6], [b0_9], [b18], blk a23_j27, [b24], M]) (res := [blk a0_37]) (par := [[b0_9]]) (R := [[b4], [b6], [b18], blk a23_j27, [b24], M]) he37 (fun b hb => hsb2 b (fl_left' (P := [[b0_9]]) b hb)) hfn37 (NP.init _ _) (fun x hx => hsb2 x (fl_right' (P := [[b0_9]]) x hx))
        have hsn : ∀ x ∈ fl [blk a0_37, [b4], [b6], [b0_9], [b18], blk a23_j27, [b24], M], x ∈ fl ([blk a0_37] ++ ([[b0_9]] ++ [[b4], [b6], [b18], blk a23_j27, [b24], M])) := pick_sub [some 0, some 2, some 3, some 1, some 4, some 5, some 6, some 7] _ rfl
        have hst := hst0.res hsn
        replace hb4 := he37.box hb4 ((MS.outs (P := [[b0_9]]) hpk2 0 rfl) _ (List.mem_singleton.2 rfl))
        replace hs_p1_0 := hs_p1_0.step hst
        replace hb6 := he37.box hb6 ((MS.outs (P := [[b0_9]]) hpk2 1 rfl) _ (List.mem_singleton.2 rfl))
        replace hs_p2_1 := hs_p2_1.step hst
        replace hf9_2 := hf9_2.step hst
        replace hb18 := he37.box hb18 ((MS.outs (P := [[b0_9]]) hpk2 2 rfl) _ (List.mem_singleton.2 rfl))
        replace hf16_1 := hf16_1.step hst
        replace hb24 := he37.box hb24 ((MS.outs (P := [[b0_9]]) hpk2 4 rfl) _ (List.mem_singleton.2 rfl))
        replace hf22_1 := hf22_1.step hst he37 (MS.outs (P := [[b0_9]]) hpk2 3 rfl)
        replace hms : MS w37 [blk a0_37, [b4], [b6], [b0_9], [b18], blk a23_j27, [b24], M] := (MS.call (P := [[b0_9]]) (R := [[b4], [b6], [b18], blk a23_j27, [b24], M]) (res := [blk a0_37]) (par := [[b0_9]]) hpk2 he37 hmn37 hfn37 (NP.init _ _)).pick [some 0, some 2, some 3, some 1, some 4, some 5, some 6, some 7] _ rfl
        have hPf : ∀ b ∈ fl [[b0_9]], w.heap.size ≤ b := FR.mem (ls := [[b0_9]]) (hfr.pick [some 2] _ rfl)
        have hfr2 : FR w.heap.size [blk a0_37, [b4], [b6], [b0_9], [b18], blk a23_j27, [b24]] := (FR.cons (fun b hb => Nat.le_trans hev.size (hfn37.at 0 rfl b hb)) (FR.cons (hfr.at 0 rfl) (FR.cons (hfr.at 1 rfl) (FR.cons (hfr.at 2 rfl) (FR.cons (hfr.at 3 rfl) (FR.cons (hfr.at 4 rfl) (FR.cons (hfr.at 5 rfl) (FR.nil _))))))))
        replace hev := hev.then he37 (fun b hb => .inr (hPf b hb))
        replace hfr := hfr2
        clear hfr2
        replace hf9_1 := hp37_0
        replace hf37_1 := OwnS.plain (M' := fl [blk a0_37, [b4], [b6], [b0_9], [b18], blk a23_j27, [b24], M]) (plain_prod (plain_int _) (plain_prod (plain_int _) (plain_prod (plain_int _) (plain_int _)))) hf37_1
        clear hpk hsb hsb0 hpk2 hsb2 hst0 hsn hst
        have hpk : MS w37 [[b4], [b6], [b0_9], [b18], blk a23_j27, [b24], M] := hms.pick [some 1, some 2, some 3, some 4, some 5, some 6, some 7] _ rfl
        have hsu : ∀ x ∈ fl [[b4], [b6], [b0_9], [b18], blk a23_j27, [b24], M], x ∈ fl [blk a0_37, [b4], [b6], [b0_9], [b18], blk a23_j27, [b24], M] := pick_sub [some 1, some 2, some 3, some 4, some 5, some 6, some 7] _ rfl
        replace hs_p1_0 := hs_p1_0.sub hsu
        replace hs_p2_1 := hs_p2_1.sub hsu
        replace hf9_2 := hf9_2.sub hsu
        replace hf16_1 := hf16_1.sub hsu
        replace hf22_1 := hf22_1.sub hsu
        replace hf37_1 := hf37_1.ro hsu (pick_out hms 0 rfl [some 1, some 2, some 3, some 4, some 5, some 6, some 7] [[b4], [b6], [b0_9], [b18], blk a23_j27, [b24], M] rfl rfl)
        replace hms := hpk
        replace hfr : FR w.heap.size [[b4], [b6], [b0_9], [b18], blk a23_j27, [b24]] := hfr.pick [some 1, some 2, some 3, some 4, some 5, some 6] _ rfl
        clear hpk hsu
        obtain ⟨w39, hr39, hb39, he39⟩ := store_boxagg 0 [.slice a0_37 (x36.1.1).length c0_37, .int .i64 x36.1.2] #[.slice a0_37 (x36.1.1).length c0_37, .int .i64 x36.1.2] tagg27 hb18 rfl rfl rfl
        refine x_store w39 (xv := .pointer (some ⟨b18, 0, none⟩)) (yv := .agg #[.slice a0_37 (x36.1.1).length c0_37, .int .i64 x36.1.2]) rfl rfl rfl rfl hr39 ?_
        refine ⟨.inl rfl, ?_⟩
        have hst := Stp.ev' (ls := [[b4], [b6], [b0_9], [b18], blk a23_j27, [b24], M]) he39 (mem_flat 3 rfl)
        replace hb4 := he39.box hb4 (hms.apart 0 3 rfl rfl rfl _ (List.mem_singleton.2 rfl))
        replace hs_p1_0 := hs_p1_0.step hst
        replace hb6 := he39.box hb6 (hms.apart 1 3 rfl rfl rfl _ (List.mem_singleton.2 rfl))
        replace hs_p2_1 := hs_p2_1.step hst
        replace hf9_1 := he39.box hf9_1 (hms.apart 2 3 rfl rfl rfl _ (List.mem_singleton.2 rfl))
        replace hf9_2 := hf9_2.step hst
        replace hf16_1 := hf16_1.step hst
        replace hb24 := he39.box hb24 (hms.apart 5 3 rfl rfl rfl _ (List.mem_singleton.2 rfl))
        replace hf22_1 := hf22_1.step hst he39 (hms.apart 4 3 rfl rfl rfl)
        replace hf37_1 := hf37_1.step hst
        replace hms := hms.ev he39
        replace hev := hev.then he39 (fun b hb => .inr (hfr.at 3 rfl b hb))
        replace hb18 := hb39
        refine x_end rfl ?_
        exact k_then ⟨(x36.2, x36.1.1, x36.1.2, a0_37, c0_37), ⟨rfl, rfl, rfl, rfl, rfl, rfl, rfl, trivial⟩, h, hev, hms, hfr, hs_p1_0, hb4, hs_p2_1, hb6, hf9_2, hf9_1, hf37_1, hb18, hf22_1, hb24⟩
      replace h := ite_f hb h
      refine c_skip ?_
      exact k_then ⟨(e10_j29_1, x15.1.1, x15.1.2, a0_16, c0_16), ⟨rfl, rfl, rfl, rfl, rfl, rfl, rfl, trivial⟩, h, hev, hms, hfr, hs_p1_0, hb4, hs_p2_1, hb6, hf9_2, hf9_1, hf16_1, hb18, hf22_1, hb24⟩
    rintro ⟨e10_j35_1, d38_j35, e19_j35_1, a38_j35, c38_j35⟩ J wj35 ⟨h, hev, hms, hfr, hs_p1_0, hb4, hs_p2_1, hb6, hf9_2, hf9_1, hj38_j35, hb18, hf22_1, hb24⟩
    refine c_seq ?_
    refine c_drawn [b0_9] [(0, false), (1, false), (2, false), (3, false), (4, false), (5, false)] _ (by kernel_rfl) rfl ?_
    have hst := Stp.ext (ls := [[b4], [b6], [b0_9], [b18], blk a23_j27, [b24], M]) (Ev.drew wj35)
    replace hb4 := (Ev.drew wj35).box hb4 nn
    replace hs_p1_0 := hs_p1_0.step hst
    replace hb6 := (Ev.drew wj35).box hb6 nn
    replace hs_p2_1 := hs_p2_1.step hst
    replace hf9_1 := (Ev.drew wj35).box hf9_1 nn
    replace hf9_2 := hf9_2.step hst
    replace hb18 := (Ev.drew wj35).box hb18 nn
    replace hj38_j35 := hj38_j35.step hst
    replace hb24 := (Ev.drew wj35).box hb24 nn
    replace hf22_1 := hf22_1.step hst (Ev.drew wj35) nn2
    replace hms := hms.ev (Ev.drew wj35)
    replace hev := hev.ext (Ev.drew wj35)
    refine x_load (xv := .pointer (some ⟨b18, 0, none⟩)) (.agg #[.slice a38_j35 (d38_j35).length c38_j35, .int .i64 e19_j35_1]) rfl rfl rfl (reads_boxagg 0 [.slice a38_j35 (d38_j35).length c38_j35, .int .i64 e19_j35_1] tagg27 hb18 ((hms.apart 3 2 rfl rfl rfl) _ (List.mem_singleton.2 rfl)) rfl) ?_
    refine x_load (xv := .pointer (some ⟨b24, 0, none⟩)) (.agg #[.int .i64 e25_j29_0, .slice a23_j27 (d23_j27).length c0_22]) rfl rfl rfl (reads_boxagg 0 [.int .i64 e25_j29_0, .slice a23_j27 (d23_j27).length c0_22] tagg30 hb24 ((hms.apart 5 2 rfl rfl rfl) _ (List.mem_singleton.2 rfl)) rfl) ?_
    refine x_pure 1 [(62, .pointer (some ⟨b0_9, 0, none⟩))] _ _ _ (by kernel_rfl) ?_
    obtain ⟨x40, hx, h⟩ := bind_some h
    have hpk : MS (wj35).drew ([[b0_9]] ++ [[b4], [b6], [b18], blk a23_j27, [b24], M]) := hms.pick [some 2, some 0, some 1, some 3, some 4, some 5, some 6] _ rfl
    have hsb0 : ∀ x ∈ fl ([[b0_9]] ++ [[b4], [b6], [b18], blk a23_j27, [b24], M]), x ∈ fl [[b4], [b6], [b0_9], [b18], blk a23_j27, [b24], M] := pick_sub [some 2, some 0, some 1, some 3, some 4, some 5, some 6] _ rfl
    have hsb : ∀ x ∈ fl ([[b0_9]] ++ [(fl [[b4], [b6], [b18], blk a23_j27, [b24], M])]), x ∈ fl [[b4], [b6], [b0_9], [b18], blk a23_j27, [b24], M] := fun x hx => hsb0 x (fl_unfold x hx)
    have hcall := gen_Maker_From_w b0_9 a1_9 c1_9 x8.1 e10_j35_1 (-1) 6 _ (wj35).drew (fl [[b4], [b6], [b18], blk a23_j27, [b24], M]) (hpk.fold (P := [[b0_9]])) (hf9_2.sub hsb) hf9_1 hx
    refine x_call 26 #[] #[] [.pointer (some ⟨b0_9, 0, none⟩), .int .i64 (-1), .int .i64 6] _ rfl rfl rfl rfl hcall ?_
    rintro v w41 ⟨rfl, he41, hp41_0⟩
    clear hcall hx
    refine ⟨.inr he41, ?_⟩
    have hpk2 : MS (wj35).drew ([[b0_9]] ++ [[b4], [b6], [b18], blk a23_j27, [b24], M]) := hms.pick [some 2, some 0, some 1, some 3, some 4, some 5, some 6] _ rfl
    have hsb2 : ∀ x ∈ fl ([[b0_9]] ++ [[b4], [b6], [b18], blk a23_j27, [b24], M]), x ∈ fl [[b4], [b6], [b0_9], [b18], blk a23_j27, [b24], M] := pick_sub [some 2, some 0, some 1, some 3, some 4, some 5, some 6] _ rfl
    have hst0 := Stp.call (LS := [[b4], [b6], [b0_9], [b18], blk a23_j27, [b24], M]) (res := []) (par := [[b0_9]]) (R := [[b4], [b6], [b18], blk a23_j27, [b24], M]) he41 (fun b hb => hsb2 b (fl_left' (P := [[b0_9]]) b hb)) (FR.nil _) (NP.init _ _) (fun x hx => hsb2 x (fl_right' (P := [[b0_9]]) x hx))
    have hsn : ∀ x ∈ fl [[b4], [b6], [b0_9], [b18], blk a23_j27, [b24], M], x ∈ fl ([] ++ ([[b0_9]] ++ [[b4], [b6], [b18], blk a23_j27, [b24], M])) := pick_sub [some 1, some 2, some 0, some 3, some 4, some 5, some 6] _ rfl
    have hst := hst0.res hsn
    replace hb4 := he41.box hb4 ((MS.outs (P := [[b0_9]]) hpk2 0 rfl) _ (List.mem_singleton.2 rfl))
    replace hs_p1_0 := hs_p1_0.step hst
    replace hb6 := he41.box hb6 ((MS.outs (P := [[b0_9]]) hpk2 1 rfl) _ (List.mem_singleton.2 rfl))
    replace hs_p2_1 := hs_p2_1.step hst
    replace hf9_2 := hf9_2.step hst
    replace hb18 := he41.box hb18 ((MS.outs (P := [[b0_9]]) hpk2 2 rfl) _ (List.mem_singleton.2 rfl))
    replace hj38_j35 := hj38_j35.step hst
    replace hb24 := he41.box hb24 ((MS.outs (P := [[b0_9]]) hpk2 4 rfl) _ (List.mem_singleton.2 rfl))
    replace hf22_1 := hf22_1.step hst he41 (MS.outs (P := [[b0_9]]) hpk2 3 rfl)
    replace hms := hms.ev he41
    have hPf : ∀ b ∈ fl [[b0_9]], w.heap.size ≤ b := FR.mem (ls := [[b0_9]]) (hfr.pick [some 2] _ rfl)
    replace hev := hev.then he41 (fun b hb => .inr (hPf b hb))
    replace hf9_1 := hp41_0
    clear hpk hsb hsb0 hpk2 hsb2 hst0 hsn hst
    obtain ⟨x42, hx, h⟩ := bind_some h
    have hpk : MS w41 ([] ++ [[b4], [b6], [b0_9], [b18], [b24], M]) := hms.pick [some 0, some 1, some 2, some 3, some 5, some 6] _ rfl
    have hsb0 : ∀ x ∈ fl ([] ++ [[b4], [b6], [b0_9], [b18], [b24], M]), x ∈ fl [[b4], [b6], [b0_9], [b18], blk a23_j27, [b24], M] := pick_sub [some 0, some 1, some 2, some 3, some 5, some 6] _ rfl
    have hsb : ∀ x ∈ fl ([] ++ [(fl [[b4], [b6], [b0_9], [b18], [b24], M])]), x ∈ fl [[b4], [b6], [b0_9], [b18], blk a23_j27, [b24], M] := fun x hx => hsb0 x (fl_unfold x hx)
    have hcall := law14_exact_w a38_j35 c38_j35 d38_j35 e19_j35_1 e25_j29_0 a23_j27 c0_22 d23_j27 x40.1 _ w41 (fl [[b4], [b6], [b0_9], [b18], [b24], M]) (MS.fold (P := []) hpk) (hj38_j35.sub hsb) (hf22_1.ro hsb (fun b hb hb2 => pick_out hms 4 rfl [some 0, some 1, some 2, some 3, some 5, some 6] ([] ++ [[b4], [b6], [b0_9], [b18], [b24], M]) rfl rfl b hb (fl_unfold b hb2))) hx
    refine x_call 25 #[] #[] [.agg #[.slice a38_j35 (d38_j35).length c38_j35, .int .i64 e19_j35_1], .agg #[.int .i64 e25_j29_0, .slice a23_j27 (d23_j27).length c0_22], .int .i64 x40.1] _ rfl rfl rfl rfl hcall ?_
    rintro v w43 ⟨rfl, he43⟩
    clear hcall hx
    refine ⟨.inr (he43.nil), ?_⟩
    have hst := Stp.ext (ls := [[b4], [b6], [b0_9], [b18], blk a23_j27, [b24], M]) he43
    replace hb4 := he43.box hb4 nn
    replace hs_p1_0 := hs_p1_0.step hst
    replace hb6 := he43.box hb6 nn
    replace hs_p2_1 := hs_p2_1.step hst
    replace hf9_1 := he43.box hf9_1 nn
    replace hf9_2 := hf9_2.step hst
    replace hb18 := he43.box hb18 nn
    replace hj38_j35 := hj38_j35.step hst
    replace hb24 := he43.box hb24 nn
    replace hf22_1 := hf22_1.step hst he43 nn2
    replace hms := hms.ev he43
    replace hev := hev.ext he43
    clear hpk hsb hsb0
    refine x_pure 1 [(65, .bool (!x42))] _ _ _ (by kernel_rfl) ?_
    refine x_end rfl (k_then ?_)
    refine c_norm [(3, .int .i64 p3), (5, .pointer (some ⟨b4, 0, none⟩)), (6, .pointer (some ⟨b6, 0, none⟩)), (9, .pointer (some ⟨b0_9, 0, none⟩)), (10, .int .i64 i_s10_l13), (65, .bool (!x42))] ⟨rfl, rfl, rfl, rfl, rfl, rfl, trivial⟩ (fun J => ?_)
    refine c_cond (!x42) rfl (fun hb => ?_) (fun hb => ?_)
    · replace h := ite_t hb h
      refine c_seq (c_plain ?_)
      refine x_pure 1 [(8, .bool false)] _ _ _ (by kernel_rfl) ?_
      refine x_end rfl (k_then ?_)
      refine c_ret ?_
      refine k_block_ret ?_
      refine k_then_ret ?_
      have hx := some_inj h
      subst hx
      have hy := some_inj hn13
      subst hy
      replace h := h13
      refine k_then_ret ?_
      refine k_block_ret ?_
      refine k_then_ret ?_
      refine r_ret (r_vals [.bool false] ⟨rfl, trivial⟩ ?_)
      have hx := some_inj h
      subst hx
      have hmr : MS w43 [M] := hms.pick [some 6] _ rfl
      have hsu : ∀ x ∈ fl [M], x ∈ fl [[b4], [b6], [b0_9], [b18], blk a23_j27, [b24], M] := pick_sub [some 6] _ rfl
      exact ⟨rfl, hev⟩
    replace h := ite_f hb h
    refine c_skip ?_
    refine k_block ?_
    refine k_then ?_
    refine c_plain ?_
    refine x_pure 3 [(17, .int .i64 i_s10_l13), (18, .int .i64 (IntKind.i64.wrap (i_s10_l13 + 1))), (10, .int .i64 (IntKind.i64.wrap (i_s10_l13 + 1)))] _ _ _ (by kernel_rfl) ?_
    refine x_end rfl ?_
    have hx := some_inj h
    subst hx
    have hpk : MS w43 [[b4], [b6], [b0_9], M] := hms.pick [some 0, some 1, some 2, some 6] _ rfl
    have hsu : ∀ x ∈ fl [[b4], [b6], [b0_9], M], x ∈ fl [[b4], [b6], [b0_9], [b18], blk a23_j27, [b24], M] := pick_sub [some 0, some 1, some 2, some 6] _ rfl
    replace hs_p1_0 := hs_p1_0.sub hsu
    replace hs_p2_1 := hs_p2_1.sub hsu
    replace hf9_2 := hf9_2.sub hsu
    replace hms := hpk
    replace hfr : FR w.heap.size [[b4], [b6], [b0_9]] := hfr.pick [some 0, some 1, some 2] _ rfl
    clear hpk hsu
    exact k_then ⟨(m13, x40.2, IntKind.i64.wrap (i_s10_l13 + 1)), ⟨rfl, rfl, rfl, rfl, rfl, trivial⟩, ⟨hn13, hev, hms, hfr, hs_p1_0, hb4, hs_p2_1, hb6, hf9_2, hf9_1⟩, Nat.lt_succ_self _⟩
  replace h := ite_f hb h
  refine c_exit ?_
  refine k_then_exit ?_
  have hx := some_inj h
  subst hx
  have hy := some_inj hn13
  subst hy
  replace h := h13
  refine k_then_exit ?_
  refine k_block_in ?_
  refine k_then ?_
  refine c_norm [(3, .int .i64 p3), (5, .pointer (some ⟨b4, 0, none⟩)), (6, .pointer (some ⟨b6, 0, none⟩))] ⟨rfl, rfl, rfl, trivial⟩ (fun J => ?_)
  refine c_seq (c_plain ?_)
  refine x_fieldAddr (xv := .pointer (some ⟨b4, 0, none⟩)) (.pointer (some ⟨b4, 0, none⟩)) rfl rfl rfl (reads_field tfld27_0 _ _) ?_
  refine x_load (xv := .pointer (some ⟨b4, 0, none⟩)) (.slice a_p1_0 (p1_0).length c_p1_0) rfl rfl rfl (reads_box tcell25 hb4 nn 0 _ rfl) ?_
  refine x_len (vs := [.slice a_p1_0 (p1_0).length c_p1_0]) (.int .i64 ((p1_0).length : Int)) rfl rfl rfl (reads_len tsl25 _ _ _ _ _) ?_
  refine x_pure 2 [(69, .bool (decide (((p1_0).length : Int) > 30))), (70, .bool (decide (((p1_0).length : Int) > 30)))] _ _ _ (by kernel_rfl) ?_
  refine x_split 70 (decide (((p1_0).length : Int) > 30)) rfl (fun hb => ?_) (fun hb => ?_)
  · replace h := ite_t hb h
    refine x_pure 15 [(71, undef), (72, undef), (73, undef), (74, undef), (75, .bool true), (76, .bool true), (77, undef), (78, undef), (79, undef), (80, undef), (81, undef), (82, undef), (83, undef), (84, .bool true), (8, .bool true)] _ _ _ (by kernel_rfl) ?_
    refine x_end rfl (k_then ?_)
    refine c_norm [(8, .bool true)] ⟨rfl, trivial⟩ (fun J => ?_)
    refine c_ret ?_
    refine r_ret (r_vals [.bool true] ⟨rfl, trivial⟩ ?_)
    have hx := some_inj h
    subst hx
    have hmr : MS wl13 [M] := hms.pick [some 3] _ rfl
    have hsu : ∀ x ∈ fl [M], x ∈ fl [[b4], [b6], [b0_9], M] := pick_sub [some 3] _ rfl
    exact ⟨rfl, hev⟩
  replace h := ite_f hb h
  refine x_fieldAddr (xv := .pointer (some ⟨b6, 0, none⟩)) (.pointer (some ⟨b6, 1, none⟩)) rfl rfl rfl (reads_field tfld30_1 _ _) ?_
  refine x_load (xv := .pointer (some ⟨b6, 1, none⟩)) (.slice a_p2_1 (p2_1).length c_p2_1) rfl rfl rfl (reads_box tcell22 hb6 nn 1 _ rfl) ?_
  refine x_len (vs := [.slice a_p2_1 (p2_1).length c_p2_1]) (.int .i64 ((p2_1).length : Int)) rfl rfl rfl (reads_len tsl22 _ _ _ _ _) ?_
  refine x_pure 3 [(74, .bool (decide (((p2_1).length : Int) > 30))), (75, .bool (decide (((p2_1).length : Int) > 30))), (76, .bool (decide (((p2_1).length : Int) > 30)))] _ _ _ (by kernel_rfl) ?_
  refine x_split 76 (decide (((p2_1).length : Int) > 30)) rfl (fun hb => ?_) (fun hb => ?_)
  · replace h := ite_t hb h
    refine x_pure 9 [(77, undef), (78, undef), (79, undef), (80, undef), (81, undef), (82, undef), (83, undef), (84, .bool true), (8, .bool true)] _ _ _ (by kernel_rfl) ?_
    refine x_end rfl (k_then ?_)
    refine c_norm [(8, .bool true)] ⟨rfl, trivial⟩ (fun J => ?_)
    refine c_ret ?_
    refine r_ret (r_vals [.bool true] ⟨rfl, trivial⟩ ?_)
    have hx := some_inj h
    subst hx
    have hmr : MS wl13 [M] := hms.pick [some 3] _ rfl
    have hsu : ∀ x ∈ fl [M], x ∈ fl [[b4], [b6], [b0_9], M] := pick_sub [some 3] _ rfl
    exact ⟨rfl, hev⟩
  replace h := ite_f hb h
  refine x_load (xv := .pointer (some ⟨b4, 0, none⟩)) (.agg #[.slice a_p1_0 (p1_0).length c_p1_0, .int .i64 p1_1]) rfl rfl rfl (reads_boxagg 0 [.slice a_p1_0 (p1_0).length c_p1_0, .int .i64 p1_1] tagg27 hb4 nn rfl) ?_
  refine x_load (xv := .pointer (some ⟨b6, 0, none⟩)) (.agg #[.int .i64 p2_0, .slice a_p2_1 (p2_1).length c_p2_1]) rfl rfl rfl (reads_boxagg 0 [.int .i64 p2_0, .slice a_p2_1 (p2_1).length c_p2_1] tagg30 hb6 nn rfl) ?_
  refine x_pure 1 [(79, .int .i64 p3)] _ _ _ (by kernel_rfl) ?_
  obtain ⟨x44, hx, h⟩ := bind_some h
  have hpk : MS wl13 ([] ++ [[b4], [b6], [b0_9], M]) := hms.pick [some 0, some 1, some 2, some 3] _ rfl
  have hsb0 : ∀ x ∈ fl ([] ++ [[b4], [b6], [b0_9], M]), x ∈ fl [[b4], [b6], [b0_9], M] := pick_sub [some 0, some 1, some 2, some 3] _ rfl
  have hsb : ∀ x ∈ fl ([] ++ [(fl [[b4], [b6], [b0_9], M])]), x ∈ fl [[b4], [b6], [b0_9], M] := fun x hx => hsb0 x (fl_unfold x hx)
  have hcall := law14_exact_w a_p1_0 c_p1_0 p1_0 p1_1 p2_0 a_p2_1 c_p2_1 p2_1 p3 _ wl13 (fl [[b4], [b6], [b0_9], M]) (MS.fold (P := []) hpk) (hs_p1_0.sub hsb) (hs_p2_1.sub hsb) hx
  refine x_call 25 #[] #[] [.agg #[.slice a_p1_0 (p1_0).length c_p1_0, .int .i64 p1_1], .agg #[.int .i64 p2_0, .slice a_p2_1 (p2_1).length c_p2_1], .int .i64 p3] _ rfl rfl rfl rfl hcall ?_
  rintro v w45 ⟨rfl, he45⟩
  clear hcall hx
  refine ⟨.inl rfl, ?_⟩
  have hst := Stp.ext (ls := [[b4], [b6], [b0_9], M]) he45
  replace hb4 := he45.box hb4 nn
  replace hs_p1_0 := hs_p1_0.step hst
  replace hb6 := he45.box hb6 nn
  replace hs_p2_1 := hs_p2_1.step hst
  replace hf9_1 := he45.box hf9_1 nn
  replace hf9_2 := hf9_2.step hst
  replace hms := hms.ev he45
  replace hev := hev.ext he45
  clear hpk hsb hsb0
  refine x_pure 1 [(81, .bool x44)] _ _ _ (by kernel_rfl) ?_
  refine x_split 81 x44 rfl (fun hb => ?_) (fun hb => ?_)
  · replace h := ite_t hb h
    obtain ⟨x46, hx, h⟩ := bind_some h
    have hcall := law14_sane_w _ w45 hx
    refine x_call 15 #[] #[] [] _ rfl rfl rfl rfl hcall ?_
    rintro v w47 ⟨rfl, he47⟩
    clear hcall hx
    refine ⟨.inl rfl, ?_⟩
    have hst := Stp.ext (ls := [[b4], [b6], [b0_9], M]) he47
    replace hb4 := he47.box hb4 nn
    replace hs_p1_0 := hs_p1_0.step hst
    replace hb6 := he47.box hb6 nn
    replace hs_p2_1 := hs_p2_1.step hst
    replace hf9_1 := he47.box hf9_1 nn
    replace hf9_2 := hf9_2.step hst
    replace hms := hms.ev he47
    replace hev := hev.ext he47
    refine x_pure 3 [(83, .bool x46), (84, .bool x46), (8, .bool x46)] _ _ _ (by kernel_rfl) ?_
    refine x_end rfl (k_then ?_)
    refine c_norm [(8, .bool x46)] ⟨rfl, trivial⟩ (fun J => ?_)
    refine c_ret ?_
    refine r_ret (r_vals [.bool x46] ⟨rfl, trivial⟩ ?_)
    have hx := some_inj h
    subst hx
    have hmr : MS w47 [M] := hms.pick [some 3] _ rfl
    have hsu : ∀ x ∈ fl [M], x ∈ fl [[b4], [b6], [b0_9], M] := pick_sub [some 3] _ rfl
    exact ⟨rfl, hev⟩
  replace h := ite_f hb h
  refine x_pure 4 [(82, undef), (83, .bool false), (84, .bool false), (8, .bool false)] _ _ _ (by kernel_rfl) ?_
  refine x_end rfl (k_then ?_)
  refine c_norm [(8, .bool false)] ⟨rfl, trivial⟩ (fun J => ?_)
  refine c_ret ?_
  refine r_ret (r_vals [.bool false] ⟨rfl, trivial⟩ ?_)
  have hx := some_inj h
  subst hx
  have hmr : MS w45 [M] := hms.pick [some 3] _ rfl
  have hsu : ∀ x ∈ fl [M], x ∈ fl [[b4], [b6], [b0_9], M] := pick_sub [some 3] _ rfl
  exact ⟨rfl, hev⟩
end Go.Proofs.Ytmjobkpgnhbcbaa
