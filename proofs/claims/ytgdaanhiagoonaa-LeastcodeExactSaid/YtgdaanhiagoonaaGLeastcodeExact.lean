/- Walks, printed by program: each function returns what the partial function of the same name returns. Conditions: those of each theorem. -/
import Derived.Test.YtgdaanhiagoonaaGT
import Derived.Test.YtgdaanhiagoonaaGgen
import Derived.Test.YtgdaanhiagoonaaGlaw13chain
import Derived.Test.YtgdaanhiagoonaaGlaw13exact
import Derived.Test.YtgdaanhiagoonaaGlaw13four
import Derived.Test.YtgdaanhiagoonaaGlaw13sane
set_option linter.unusedVariables false
set_option linter.unusedSimpArgs false
set_option maxRecDepth 4000
namespace Go.Proofs.Ytgdaanhiagoonaa
open Go Go.V Go.Proofs
def law13_LeastcodeExact_J22 (i_s8_l11 : Int) (x19 : (List Int) × Int) (e8_j22_1 : Int) (d25_j22 : List (Int × Int × Int × Int)) (e17_j22_1 : Int) : Option (Step (Int × Int) (Unit ⊕ Unit)) :=
((law13_exact d25_j22 e17_j22_1 x19.1).bind fun x27 =>
(if (!x27) = true then
some (.done (.inl ()))
else
some (.next (e8_j22_1, IntKind.i64.wrap (i_s8_l11 + 1)))))

def law13_LeastcodeExact_L11 (x6 : ((List Int) × Int)) (s : Int × Int) : Option (Step (Int × Int) (Unit ⊕ Unit)) :=
match s with
| (e8_l11_1, i_s8_l11) =>
(if (decide (i_s8_l11 < 4)) = true then
((gen_Maker_Job x6.1 e8_l11_1 12).bind fun x13 =>
((law13_chain x6.1 x13.2 x13.1.1 x13.1.2).bind fun x19 =>
(if (i_s8_l11 == 3) = true then
((gen_Maker_SpoilJob x6.1 x19.2 x13.1.1 x13.1.2).bind fun x23 =>
law13_LeastcodeExact_J22 i_s8_l11 x19 x23.2 x23.1.1 x23.1.2)
else
law13_LeastcodeExact_J22 i_s8_l11 x19 x19.2 x13.1.1 x13.1.2)))
else
some (.done (.inr ())))

def law13_LeastcodeExact (p0 : List Int) (p1_0 : List (Int × Int × Int × Int)) (p1_1 : Int) (p2 : List Int) : Option Bool :=
((gen_New p0).bind fun x6 =>
((loop (law13_LeastcodeExact_L11 x6) (x6.2, 0)).bind fun d => match d with
| (.inl _) => some false
| (.inr _) => (if (decide (((p1_0).length : Int) > 30)) = true then
some true
else
(if (decide (((p2).length : Int) > 60)) = true then
some true
else
((law13_exact p1_0 p1_1 p2).bind fun x29 =>
(if x29 = true then
((law13_four 3).bind fun x31 =>
((law13_exact x31.1 x31.2 p2).bind fun x34 =>
(if x34 = true then
((law13_sane).bind fun x36 =>
some x36)
else
some false)))
else
some false))))))

theorem law13_LeastcodeExact_w (a_p0 : Option Addr) (c_p0 : Nat) (p0 : List Int) (a_p1_0 : Option Addr) (c_p1_0 : Nat) (p1_0 : List (Int × Int × Int × Int)) (p1_1 : Int) (a_p2 : Option Addr) (c_p2 : Nat) (p2 : List Int) (r : Bool) (w : World) (M : List Nat) (hms : MS w [M]) (hs_p0 : SlR (eInt .i64) w (fl [M]) a_p0 c_p0 p0) (hs_p1_0 : SlR (eProd (eInt .i64) (eProd (eInt .i64) (eProd (eInt .i64) (eInt .i64)))) w (fl [M]) a_p1_0 c_p1_0 p1_0) (hs_p2 : SlR (eInt .i64) w (fl [M]) a_p2 c_p2 p2) (h : law13_LeastcodeExact p0 p1_0 p1_1 p2 = some r) : CallVC Try.prog 4 [.slice a_p0 (p0).length c_p0, .agg #[.slice a_p1_0 (p1_0).length c_p1_0, .int .i64 p1_1], .slice a_p2 (p2).length c_p2] w fun v w' => v = .bool r ∧ Ev [] w w' := by
  refine calls_vc hmx Try.func4 (by kernel_rfl) rfl (rs := [.tmp 6]) rfl (by kernel_rfl) (args := [.slice a_p0 (p0).length c_p0, .agg #[.slice a_p1_0 (p1_0).length c_p1_0, .int .i64 p1_1], .slice a_p2 (p2).length c_p2]) rfl ?_
  have hev : Ev [] w w := Ev.refl _ _
  have hfr : FR w.heap.size [] := FR.nil _
  refine c_seq (c_plain ?_)
  refine x_box (xv := .agg #[.slice a_p1_0 (p1_0).length c_p1_0, .int .i64 p1_1]) rfl rfl rfl (fun b4 w4 hq4 hb4 he4 hz4 => ?_)
  replace hb4 : w4.heap[b4]? = some (.cells #[.slice a_p1_0 (p1_0).length c_p1_0, .int .i64 p1_1] 24 (0, 0)) := hb4
  refine ⟨.inl rfl, ?_⟩
  have hst := Stp.box (ls := [M]) he4 hq4
  replace hs_p0 := hs_p0.step hst
  replace hs_p1_0 := hs_p1_0.step hst
  replace hs_p2 := hs_p2.step hst
  replace hms := hms.box he4 hq4 hb4
  replace hfr := hfr.box hev.size hq4
  replace hev := hev.ext he4
  refine x_pure 1 [(6, .bool false)] _ _ _ (by kernel_rfl) ?_
  refine x_end rfl (k_then ?_)
  refine c_seq (c_plain ?_)
  refine x_pure 1 [(11, .slice a_p0 (p0).length c_p0)] _ _ _ (by kernel_rfl) ?_
  obtain ⟨x6, hx, h⟩ := bind_some h
  have hpk : MS w4 ([] ++ [[b4], M]) := hms.pick [some 0, some 1] _ rfl
  have hsb0 : ∀ x ∈ fl ([] ++ [[b4], M]), x ∈ fl [[b4], M] := pick_sub [some 0, some 1] _ rfl
  have hsb : ∀ x ∈ fl ([] ++ [(fl [[b4], M])]), x ∈ fl [[b4], M] := fun x hx => hsb0 x (fl_unfold x hx)
  have hcall := gen_New_w a_p0 c_p0 p0 _ w4 (fl [[b4], M]) (MS.fold (P := []) hpk) (hs_p0.sub hsb) hx
  refine x_call 14 #[] #[] [.slice a_p0 (p0).length c_p0] _ rfl rfl rfl rfl hcall ?_
  rintro v w7 ⟨b0_7, a1_7, c1_7, rfl, he7, hmn7, hfn7, hf7_1, hf7_2⟩
  clear hcall hx
  refine ⟨.inl rfl, ?_⟩
  have hpk2 : MS w4 ([] ++ [[b4], M]) := hms.pick [some 0, some 1] _ rfl
  have hsb2 : ∀ x ∈ fl ([] ++ [[b4], M]), x ∈ fl [[b4], M] := pick_sub [some 0, some 1] _ rfl
  have hst0 := Stp.call (LS := [[b4], M]) (res := [[b0_7]]) (par := []) (R := [[b4], M]) he7 (fun b hb => hsb2 b (fl_left' (P := []) b hb)) hfn7 (NP.init _ _) (fun x hx => hsb2 x (fl_right' (P := []) x hx))
  have hsn : ∀ x ∈ fl [[b0_7], [b4], M], x ∈ fl ([[b0_7]] ++ ([] ++ [[b4], M])) := pick_sub [some 0, some 1, some 2] _ rfl
  have hst := hst0.res hsn
  replace hs_p0 := hs_p0.step hst
  replace hs_p1_0 := hs_p1_0.step hst
  replace hs_p2 := hs_p2.step hst
  replace hb4 := he7.box hb4 ((MS.outs (P := []) hpk2 0 rfl) _ (List.mem_singleton.2 rfl))
  replace hms : MS w7 [[b0_7], [b4], M] := (MS.call (P := []) (R := [[b4], M]) (res := [[b0_7]]) (par := []) hpk2 he7 hmn7 hfn7 (NP.init _ _)).pick [some 0, some 1, some 2] _ rfl
  have hfr2 : FR w.heap.size [[b0_7], [b4]] := (FR.cons (fun b hb => Nat.le_trans hev.size (hfn7.at 0 rfl b hb)) (FR.cons (hfr.at 0 rfl) (FR.nil _)))
  replace hev := hev.ext he7
  replace hfr := hfr2
  clear hfr2
  have hsp : ∀ x ∈ fl [[b0_7], [b4], M], x ∈ fl ([[b0_7]] ++ ([] ++ [(fl [[b4], M])])) := fun x hx => fl_tot (res := [[b0_7]]) (par := []) (R := [[b4], M]) x (hsn x hx)
  replace hf7_2 := hf7_2.sub hsp
  clear hpk hsb hsb0 hpk2 hsb2 hst0 hsn hst
  refine x_pure 1 [(7, .pointer (some ⟨b0_7, 0, none⟩))] _ _ _ (by kernel_rfl) ?_
  refine x_end rfl (k_then ?_)
  refine c_seq ?_
  refine c_seq (c_plain ?_)
  refine x_pure 1 [(8, .int .i64 0)] _ _ _ (by kernel_rfl) ?_
  refine x_end rfl (k_then ?_)
  refine c_block ?_
  have hpk : MS w7 [[b4], [b0_7], M] := hms.pick [some 1, some 0, some 2] _ rfl
  have hsu : ∀ x ∈ fl [[b4], [b0_7], M], x ∈ fl [[b0_7], [b4], M] := pick_sub [some 1, some 0, some 2] _ rfl
  replace hs_p2 := hs_p2.sub hsu
  replace hs_p1_0 := hs_p1_0.sub hsu
  replace hf7_2 := hf7_2.sub hsu
  replace hms := hpk
  replace hfr : FR w.heap.size [[b4], [b0_7]] := hfr.pick [some 1, some 0] _ rfl
  clear hpk hsu
  obtain ⟨d11, hd11, h11⟩ := bind_some h
  obtain ⟨m11, hd11⟩ := loop_some hd11
  refine c_loop (loop_rule hmx (σ := Nat × Int × Int) (fun s => match s with | (_, e8_l11_1, i_s8_l11) => [(2, .slice a_p2 (p2).length c_p2), (4, .pointer (some ⟨b4, 0, none⟩)), (7, .pointer (some ⟨b0_7, 0, none⟩)), (8, .int .i64 i_s8_l11)]) (fun s w' => match s with | (m, e8_l11_1, i_s8_l11) => loopN (law13_LeastcodeExact_L11 x6) m (e8_l11_1, i_s8_l11) = some d11 ∧ Ev [] w w' ∧ MS w' [[b4], [b0_7], M] ∧ FR w.heap.size [[b4], [b0_7]] ∧ SlR (eInt .i64) w' (fl [[b4], [b0_7], M]) a_p2 c_p2 p2 ∧ SlR (eProd (eInt .i64) (eProd (eInt .i64) (eProd (eInt .i64) (eInt .i64)))) w' (fl [[b4], [b0_7], M]) a_p1_0 c_p1_0 p1_0 ∧ w'.heap[b4]? = some (.cells #[.slice a_p1_0 (p1_0).length c_p1_0, .int .i64 p1_1] 24 (0, 0)) ∧ SlR (eInt .i64) w' (fl [[b4], [b0_7], M]) a1_7 c1_7 x6.1 ∧ w'.heap[b0_7]? = some (.cells #[.slice a1_7 (x6.1).length c1_7, .int .i64 e8_l11_1] 62 (0, 0))) (fun s => s.1) (m11, x6.2, 0) ⟨rfl, rfl, rfl, rfl, trivial⟩ ⟨hd11, hev, hms, hfr, hs_p2, hs_p1_0, hb4, hf7_2, hf7_1⟩ ?_)
  rintro ⟨m11, e8_l11_1, i_s8_l11⟩ J wl11 ⟨hn11, hev, hms, hfr, hs_p2, hs_p1_0, hb4, hf7_2, hf7_1⟩
  rcases m11 with _ | m11
  · exact (loopN_zero hn11).elim
  obtain ⟨t11, h, hn11⟩ := bind_some hn11
  refine c_seq ?_
  refine c_seq (c_plain ?_)
  refine x_pure 2 [(13, .int .i64 i_s8_l11), (14, .bool (decide (i_s8_l11 < 4)))] _ _ _ (by kernel_rfl) ?_
  refine x_end rfl (k_then ?_)
  refine c_norm [(2, .slice a_p2 (p2).length c_p2), (4, .pointer (some ⟨b4, 0, none⟩)), (7, .pointer (some ⟨b0_7, 0, none⟩)), (8, .int .i64 i_s8_l11), (14, .bool (decide (i_s8_l11 < 4)))] ⟨rfl, rfl, rfl, rfl, rfl, trivial⟩ (fun J => ?_)
  refine c_cond (decide (i_s8_l11 < 4)) rfl (fun hb => ?_) (fun hb => ?_)
  · replace h := ite_t hb h
    refine c_skip ?_
    refine k_then ?_
    refine c_seq ?_
    refine c_block ?_
    refine c_seq (c_plain ?_)
    refine x_pure 1 [(17, .pointer (some ⟨b0_7, 0, none⟩))] _ _ _ (by kernel_rfl) ?_
    obtain ⟨x13, hx, h⟩ := bind_some h
    have hpk : MS wl11 ([[b0_7]] ++ [[b4], M]) := hms.pick [some 1, some 0, some 2] _ rfl
    have hsb0 : ∀ x ∈ fl ([[b0_7]] ++ [[b4], M]), x ∈ fl [[b4], [b0_7], M] := pick_sub [some 1, some 0, some 2] _ rfl
    have hsb : ∀ x ∈ fl ([[b0_7]] ++ [(fl [[b4], M])]), x ∈ fl [[b4], [b0_7], M] := fun x hx => hsb0 x (fl_unfold x hx)
    have hcall := gen_Maker_Job_w b0_7 a1_7 c1_7 x6.1 e8_l11_1 12 _ wl11 (fl [[b4], M]) (hpk.fold (P := [[b0_7]])) (hf7_2.sub hsb) hf7_1 hx
    refine x_call 15 #[] #[] [.pointer (some ⟨b0_7, 0, none⟩), .int .i64 12] _ rfl rfl rfl rfl hcall ?_
    rintro v w14 ⟨a0_14, c0_14, rfl, he14, hp14_0, hmn14, hfn14, hf14_1⟩
    clear hcall hx
    refine ⟨.inl rfl, ?_⟩
    have hpk2 : MS wl11 ([[b0_7]] ++ [[b4], M]) := hms.pick [some 1, some 0, some 2] _ rfl
    have hsb2 : ∀ x ∈ fl ([[b0_7]] ++ [[b4], M]), x ∈ fl [[b4], [b0_7], M] := pick_sub [some 1, some 0, some 2] _ rfl
    have hst0 := Stp.call (LS := [[b4], [b0_7], M]) (res := [blk a0_14]) (par := [[b0_7]]) (R := [[b4], M]) he14 (fun b hb => hsb2 b (fl_left' (P := [[b0_7]]) b hb)) hfn14 (NP.init _ _) (fun x hx => hsb2 x (fl_right' (P := [[b0_7]]) x hx))
    have hsn : ∀ x ∈ fl [blk a0_14, [b4], [b0_7], M], x ∈ fl ([blk a0_14] ++ ([[b0_7]] ++ [[b4], M])) := pick_sub [some 0, some 2, some 1, some 3] _ rfl
    have hst := hst0.res hsn
    replace hs_p2 := hs_p2.step hst
    replace hb4 := he14.box hb4 ((MS.outs (P := [[b0_7]]) hpk2 0 rfl) _ (List.mem_singleton.2 rfl))
    replace hs_p1_0 := hs_p1_0.step hst
    replace hf7_2 := hf7_2.step hst
    replace hms : MS w14 [blk a0_14, [b4], [b0_7], M] := (MS.call (P := [[b0_7]]) (R := [[b4], M]) (res := [blk a0_14]) (par := [[b0_7]]) hpk2 he14 hmn14 hfn14 (NP.init _ _)).pick [some 0, some 2, some 1, some 3] _ rfl
    have hPf : ∀ b ∈ fl [[b0_7]], w.heap.size ≤ b := FR.mem (ls := [[b0_7]]) (hfr.pick [some 1] _ rfl)
    have hfr2 : FR w.heap.size [blk a0_14, [b4], [b0_7]] := (FR.cons (fun b hb => Nat.le_trans hev.size (hfn14.at 0 rfl b hb)) (FR.cons (hfr.at 0 rfl) (FR.cons (hfr.at 1 rfl) (FR.nil _))))
    replace hev := hev.then he14 (fun b hb => .inr (hPf b hb))
    replace hfr := hfr2
    clear hfr2
    replace hf7_1 := hp14_0
    replace hf14_1 := OwnS.plain (M' := fl [blk a0_14, [b4], [b0_7], M]) (plain_prod (plain_int _) (plain_prod (plain_int _) (plain_prod (plain_int _) (plain_int _)))) hf14_1
    clear hpk hsb hsb0 hpk2 hsb2 hst0 hsn hst
    have hpk : MS w14 [[b4], [b0_7], M] := hms.pick [some 1, some 2, some 3] _ rfl
    have hsu : ∀ x ∈ fl [[b4], [b0_7], M], x ∈ fl [blk a0_14, [b4], [b0_7], M] := pick_sub [some 1, some 2, some 3] _ rfl
    replace hs_p2 := hs_p2.sub hsu
    replace hs_p1_0 := hs_p1_0.sub hsu
    replace hf7_2 := hf7_2.sub hsu
    replace hf14_1 := hf14_1.ro hsu (pick_out hms 0 rfl [some 1, some 2, some 3] [[b4], [b0_7], M] rfl rfl)
    replace hms := hpk
    replace hfr : FR w.heap.size [[b4], [b0_7]] := hfr.pick [some 1, some 2] _ rfl
    clear hpk hsu
    refine x_alloc (z := .agg #[.slice none 0 0, .int .i64 0]) rfl rfl (by kernel_rfl) (fun b16 w16 hq16 hb16 he16 hz16 => ?_)
    replace hb16 : w16.heap[b16]? = some (.cells #[.slice none 0 0, .int .i64 0] 24 (0, 0)) := hb16
    refine ⟨.inl rfl, ?_⟩
    have hst := Stp.box (ls := [[b4], [b0_7], M]) he16 hq16
    replace hs_p2 := hs_p2.step hst
    replace hb4 := he16.box hb4 nn
    replace hs_p1_0 := hs_p1_0.step hst
    replace hf7_1 := he16.box hf7_1 nn
    replace hf7_2 := hf7_2.step hst
    replace hf14_1 := hf14_1.step hst
    replace hms := hms.box he16 hq16 hb16
    replace hfr := hfr.box hev.size hq16
    replace hev := hev.ext he16
    obtain ⟨w18, hr18, hb18, he18⟩ := store_boxagg 0 [.slice a0_14 (x13.1.1).length c0_14, .int .i64 x13.1.2] #[.slice a0_14 (x13.1.1).length c0_14, .int .i64 x13.1.2] tagg24 hb16 rfl rfl rfl
    refine x_store w18 (xv := .pointer (some ⟨b16, 0, none⟩)) (yv := .agg #[.slice a0_14 (x13.1.1).length c0_14, .int .i64 x13.1.2]) rfl rfl rfl rfl hr18 ?_
    refine ⟨.inl rfl, ?_⟩
    have hst := Stp.ev' (ls := [[b16], [b4], [b0_7], M]) he18 (mem_flat 0 rfl)
    replace hs_p2 := hs_p2.step hst
    replace hb4 := he18.box hb4 (hms.apart 1 0 rfl rfl rfl _ (List.mem_singleton.2 rfl))
    replace hs_p1_0 := hs_p1_0.step hst
    replace hf7_1 := he18.box hf7_1 (hms.apart 2 0 rfl rfl rfl _ (List.mem_singleton.2 rfl))
    replace hf7_2 := hf7_2.step hst
    replace hf14_1 := hf14_1.step hst
    replace hms := hms.ev he18
    replace hev := hev.then he18 (fun b hb => .inr (hfr.at 0 rfl b hb))
    replace hb16 := hb18
    refine x_end rfl (k_then ?_)
    refine c_seq (c_plain ?_)
    refine x_pure 1 [(19, .pointer (some ⟨b0_7, 0, none⟩))] _ _ _ (by kernel_rfl) ?_
    refine x_load (xv := .pointer (some ⟨b16, 0, none⟩)) (.agg #[.slice a0_14 (x13.1.1).length c0_14, .int .i64 x13.1.2]) rfl rfl rfl (reads_boxagg 0 [.slice a0_14 (x13.1.1).length c0_14, .int .i64 x13.1.2] tagg24 hb16 nn rfl) ?_
    obtain ⟨x19, hx, h⟩ := bind_some h
    have hpk : MS w18 ([[b0_7]] ++ [[b16], [b4], M]) := hms.pick [some 2, some 0, some 1, some 3] _ rfl
    have hsb0 : ∀ x ∈ fl ([[b0_7]] ++ [[b16], [b4], M]), x ∈ fl [[b16], [b4], [b0_7], M] := pick_sub [some 2, some 0, some 1, some 3] _ rfl
    have hsb : ∀ x ∈ fl ([[b0_7]] ++ [(fl [[b16], [b4], M])]), x ∈ fl [[b16], [b4], [b0_7], M] := fun x hx => hsb0 x (fl_unfold x hx)
    have hcall := law13_chain_w b0_7 a1_7 c1_7 x6.1 x13.2 a0_14 c0_14 x13.1.1 x13.1.2 _ w18 (fl [[b16], [b4], M]) (hpk.fold (P := [[b0_7]])) (hf7_2.sub hsb) hf7_1 (hf14_1.sub hsb) hx
    refine x_call 16 #[] #[] [.pointer (some ⟨b0_7, 0, none⟩), .agg #[.slice a0_14 (x13.1.1).length c0_14, .int .i64 x13.1.2]] _ rfl rfl rfl rfl hcall ?_
    rintro v w20 ⟨a0_20, c0_20, rfl, he20, hp20_0, hmn20, hfn20, hf20_1⟩
    clear hcall hx
    refine ⟨.inl rfl, ?_⟩
    have hpk2 : MS w18 ([[b0_7]] ++ [[b16], [b4], M]) := hms.pick [some 2, some 0, some 1, some 3] _ rfl
    have hsb2 : ∀ x ∈ fl ([[b0_7]] ++ [[b16], [b4], M]), x ∈ fl [[b16], [b4], [b0_7], M] := pick_sub [some 2, some 0, some 1, some 3] _ rfl
    have hst0 := Stp.call (LS := [[b16], [b4], [b0_7], M]) (res := [blk a0_20]) (par := [[b0_7]]) (R := [[b16], [b4], M]) he20 (fun b hb => hsb2 b (fl_left' (P := [[b0_7]]) b hb)) hfn20 (NP.init _ _) (fun x hx => hsb2 x (fl_right' (P := [[b0_7]]) x hx))
    have hsn : ∀ x ∈ fl [blk a0_20, [b16], [b4], [b0_7], M], x ∈ fl ([blk a0_20] ++ ([[b0_7]] ++ [[b16], [b4], M])) := pick_sub [some 0, some 2, some 3, some 1, some 4] _ rfl
    have hst := hst0.res hsn
    replace hs_p2 := hs_p2.step hst
    replace hb4 := he20.box hb4 ((MS.outs (P := [[b0_7]]) hpk2 1 rfl) _ (List.mem_singleton.2 rfl))
    replace hs_p1_0 := hs_p1_0.step hst
    replace hf7_2 := hf7_2.step hst
    replace hf14_1 := hf14_1.step hst
    replace hb16 := he20.box hb16 ((MS.outs (P := [[b0_7]]) hpk2 0 rfl) _ (List.mem_singleton.2 rfl))
    replace hms : MS w20 [blk a0_20, [b16], [b4], [b0_7], M] := (MS.call (P := [[b0_7]]) (R := [[b16], [b4], M]) (res := [blk a0_20]) (par := [[b0_7]]) hpk2 he20 hmn20 hfn20 (NP.init _ _)).pick [some 0, some 2, some 3, some 1, some 4] _ rfl
    have hPf : ∀ b ∈ fl [[b0_7]], w.heap.size ≤ b := FR.mem (ls := [[b0_7]]) (hfr.pick [some 2] _ rfl)
    have hfr2 : FR w.heap.size [blk a0_20, [b16], [b4], [b0_7]] := (FR.cons (fun b hb => Nat.le_trans hev.size (hfn20.at 0 rfl b hb)) (FR.cons (hfr.at 0 rfl) (FR.cons (hfr.at 1 rfl) (FR.cons (hfr.at 2 rfl) (FR.nil _)))))
    replace hev := hev.then he20 (fun b hb => .inr (hPf b hb))
    replace hfr := hfr2
    clear hfr2
    replace hf7_1 := hp20_0
    replace hf20_1 := OwnS.plain (M' := fl [blk a0_20, [b16], [b4], [b0_7], M]) (plain_int _) hf20_1
    clear hpk hsb hsb0 hpk2 hsb2 hst0 hsn hst
    have hpk : MS w20 [[b16], [b4], [b0_7], M] := hms.pick [some 1, some 2, some 3, some 4] _ rfl
    have hsu : ∀ x ∈ fl [[b16], [b4], [b0_7], M], x ∈ fl [blk a0_20, [b16], [b4], [b0_7], M] := pick_sub [some 1, some 2, some 3, some 4] _ rfl
    replace hs_p2 := hs_p2.sub hsu
    replace hs_p1_0 := hs_p1_0.sub hsu
    replace hf7_2 := hf7_2.sub hsu
    replace hf14_1 := hf14_1.sub hsu
    replace hf20_1 := hf20_1.ro hsu (pick_out hms 0 rfl [some 1, some 2, some 3, some 4] [[b16], [b4], [b0_7], M] rfl rfl)
    replace hms := hpk
    replace hfr : FR w.heap.size [[b16], [b4], [b0_7]] := hfr.pick [some 1, some 2, some 3] _ rfl
    clear hpk hsu
    refine x_pure 1 [(10, .slice a0_20 (x19.1).length c0_20)] _ _ _ (by kernel_rfl) ?_
    refine x_end rfl (k_then ?_)
    refine c_join (σ := Int × (List (Int × Int × Int × Int)) × Int × Option Addr × Nat) (fun s => match s with | (e8_j22_1, d25_j22, e17_j22_1, a25_j22, c25_j22) => [(2, .slice a_p2 (p2).length c_p2), (4, .pointer (some ⟨b4, 0, none⟩)), (7, .pointer (some ⟨b0_7, 0, none⟩)), (8, .int .i64 i_s8_l11), (9, .pointer (some ⟨b16, 0, none⟩)), (10, .slice a0_20 (x19.1).length c0_20)]) (fun s w' => match s with | (e8_j22_1, d25_j22, e17_j22_1, a25_j22, c25_j22) => law13_LeastcodeExact_J22 i_s8_l11 x19 e8_j22_1 d25_j22 e17_j22_1 = some t11 ∧ Ev [] w w' ∧ MS w' [[b4], [b0_7], [b16], M] ∧ FR w.heap.size [[b4], [b0_7], [b16]] ∧ SlR (eInt .i64) w' (fl [[b4], [b0_7], [b16], M]) a_p2 c_p2 p2 ∧ SlR (eProd (eInt .i64) (eProd (eInt .i64) (eProd (eInt .i64) (eInt .i64)))) w' (fl [[b4], [b0_7], [b16], M]) a_p1_0 c_p1_0 p1_0 ∧ w'.heap[b4]? = some (.cells #[.slice a_p1_0 (p1_0).length c_p1_0, .int .i64 p1_1] 24 (0, 0)) ∧ SlR (eInt .i64) w' (fl [[b4], [b0_7], [b16], M]) a1_7 c1_7 x6.1 ∧ w'.heap[b0_7]? = some (.cells #[.slice a1_7 (x6.1).length c1_7, .int .i64 e8_j22_1] 62 (0, 0)) ∧ SlR (eProd (eInt .i64) (eProd (eInt .i64) (eProd (eInt .i64) (eInt .i64)))) w' (fl [[b4], [b0_7], [b16], M]) a25_j22 c25_j22 d25_j22 ∧ w'.heap[b16]? = some (.cells #[.slice a25_j22 (d25_j22).length c25_j22, .int .i64 e17_j22_1] 24 (0, 0)) ∧ SlR (eInt .i64) w' (fl [[b4], [b0_7], [b16], M]) a0_20 c0_20 x19.1) ?_ ?_
    · refine c_seq (c_plain ?_)
      refine x_pure 2 [(22, .int .i64 i_s8_l11), (23, .bool (i_s8_l11 == 3))] _ _ _ (by kernel_rfl) ?_
      refine x_end rfl (k_then ?_)
      refine c_cond (i_s8_l11 == 3) rfl (fun hb => ?_) (fun hb => ?_)
      · replace h := ite_t hb h
        refine c_plain ?_
        refine x_pure 1 [(24, .pointer (some ⟨b0_7, 0, none⟩))] _ _ _ (by kernel_rfl) ?_
        refine x_load (xv := .pointer (some ⟨b16, 0, none⟩)) (.agg #[.slice a0_14 (x13.1.1).length c0_14, .int .i64 x13.1.2]) rfl rfl rfl (reads_boxagg 0 [.slice a0_14 (x13.1.1).length c0_14, .int .i64 x13.1.2] tagg24 hb16 nn rfl) ?_
        obtain ⟨x23, hx, h⟩ := bind_some h
        have hpk : MS w20 ([[b0_7]] ++ [[b16], [b4], M]) := hms.pick [some 2, some 0, some 1, some 3] _ rfl
        have hsb0 : ∀ x ∈ fl ([[b0_7]] ++ [[b16], [b4], M]), x ∈ fl [[b16], [b4], [b0_7], M] := pick_sub [some 2, some 0, some 1, some 3] _ rfl
        have hsb : ∀ x ∈ fl ([[b0_7]] ++ [(fl [[b16], [b4], M])]), x ∈ fl [[b16], [b4], [b0_7], M] := fun x hx => hsb0 x (fl_unfold x hx)
        have hcall := gen_Maker_SpoilJob_w b0_7 a1_7 c1_7 x6.1 x19.2 a0_14 c0_14 x13.1.1 x13.1.2 _ w20 (fl [[b16], [b4], M]) (hpk.fold (P := [[b0_7]])) (hf7_2.sub hsb) hf7_1 (hf14_1.sub hsb) hx
        refine x_call 17 #[] #[] [.pointer (some ⟨b0_7, 0, none⟩), .agg #[.slice a0_14 (x13.1.1).length c0_14, .int .i64 x13.1.2]] _ rfl rfl rfl rfl hcall ?_
        rintro v w24 ⟨a0_24, c0_24, rfl, he24, hp24_0, hmn24, hfn24, hf24_1⟩
        clear hcall hx
        refine ⟨.inl rfl, ?_⟩
        have hpk2 : MS w20 ([[b0_7]] ++ [[b16], [b4], M]) := hms.pick [some 2, some 0, some 1, some 3] _ rfl
        have hsb2 : ∀ x ∈ fl ([[b0_7]] ++ [[b16], [b4], M]), x ∈ fl [[b16], [b4], [b0_7], M] := pick_sub [some 2, some 0, some 1, some 3] _ rfl
        have hst0 := Stp.call (LS := [[b16], [b4], [b0_7], M]) (res := [blk a0_24]) (par := [[b0_7]]) (R := [[b16], [b4], M]) he24 (fun b hb => hsb2 b (fl_left' (P := [[b0_7]]) b hb)) hfn24 (NP.init _ _) (fun x hx => hsb2 x (fl_right' (P := [[b0_7]]) x hx))
        have hsn : ∀ x ∈ fl [blk a0_24, [b16], [b4], [b0_7], M], x ∈ fl ([blk a0_24] ++ ([[b0_7]] ++ [[b16], [b4], M])) := pick_sub [some 0, some 2, some 3, some 1, some 4] _ rfl
        have hst := hst0.res hsn
        replace hs_p2 := hs_p2.step hst
        replace hb4 := he24.box hb4 ((MS.outs (P := [[b0_7]]) hpk2 1 rfl) _ (List.mem_singleton.2 rfl))
        replace hs_p1_0 := hs_p1_0.step hst
        replace hf7_2 := hf7_2.step hst
        replace hf14_1 := hf14_1.step hst
        replace hb16 := he24.box hb16 ((MS.outs (P := [[b0_7]]) hpk2 0 rfl) _ (List.mem_singleton.2 rfl))
        replace hf20_1 := hf20_1.step hst
        replace hms : MS w24 [blk a0_24, [b16], [b4], [b0_7], M] := (MS.call (P := [[b0_7]]) (R := [[b16], [b4], M]) (res := [blk a0_24]) (par := [[b0_7]]) hpk2 he24 hmn24 hfn24 (NP.init _ _)).pick [some 0, some 2, some 3, some 1, some 4] _ rfl
        have hPf : ∀ b ∈ fl [[b0_7]], w.heap.size ≤ b := FR.mem (ls := [[b0_7]]) (hfr.pick [some 2] _ rfl)
        have hfr2 : FR w.heap.size [blk a0_24, [b16], [b4], [b0_7]] := (FR.cons (fun b hb => Nat.le_trans hev.size (hfn24.at 0 rfl b hb)) (FR.cons (hfr.at 0 rfl) (FR.cons (hfr.at 1 rfl) (FR.cons (hfr.at 2 rfl) (FR.nil _)))))
        replace hev := hev.then he24 (fun b hb => .inr (hPf b hb))
        replace hfr := hfr2
        clear hfr2
        replace hf7_1 := hp24_0
        replace hf24_1 := OwnS.plain (M' := fl [blk a0_24, [b16], [b4], [b0_7], M]) (plain_prod (plain_int _) (plain_prod (plain_int _) (plain_prod (plain_int _) (plain_int _)))) hf24_1
        clear hpk hsb hsb0 hpk2 hsb2 hst0 hsn hst
        have hpk : MS w24 [[b16], [b4], [b0_7], M] := hms.pick [some 1, some 2, some 3, some 4] _ rfl
        have hsu : ∀ x ∈ fl [[b16], [b4], [b0_7], M], x ∈ fl [blk a0_24, [b16], [b4], [b0_7], M] := pick_sub [some 1, some 2, some 3, some 4] _ rfl
        replace hs_p2 := hs_p2.sub hsu
        replace hs_p1_0 := hs_p1_0.sub hsu
        replace hf7_2 := hf7_2.sub hsu
        replace hf14_1 := hf14_1.sub hsu
        replace hf20_1 := hf20_1.sub hsu
        replace hf24_1 := hf24_1.ro hsu (pick_out hms 0 rfl [some 1, some 2, some 3, some 4] [[b16], [b4], [b0_7], M] rfl rfl)
        replace hms := hpk
        replace hfr : FR w.heap.size [[b16], [b4], [b0_7]] := hfr.pick [some 1, some 2, some 3] _ rfl
        clear hpk hsu
        obtain ⟨w26, hr26, hb26, he26⟩ := store_boxagg 0 [.slice a0_24 (x23.1.1).length c0_24, .int .i64 x23.1.2] #[.slice a0_24 (x23.1.1).length c0_24, .int .i64 x23.1.2] tagg24 hb16 rfl rfl rfl
        refine x_store w26 (xv := .pointer (some ⟨b16, 0, none⟩)) (yv := .agg #[.slice a0_24 (x23.1.1).length c0_24, .int .i64 x23.1.2]) rfl rfl rfl rfl hr26 ?_
        refine ⟨.inl rfl, ?_⟩
        have hst := Stp.ev' (ls := [[b16], [b4], [b0_7], M]) he26 (mem_flat 0 rfl)
        replace hs_p2 := hs_p2.step hst
        replace hb4 := he26.box hb4 (hms.apart 1 0 rfl rfl rfl _ (List.mem_singleton.2 rfl))
        replace hs_p1_0 := hs_p1_0.step hst
        replace hf7_1 := he26.box hf7_1 (hms.apart 2 0 rfl rfl rfl _ (List.mem_singleton.2 rfl))
        replace hf7_2 := hf7_2.step hst
        replace hf14_1 := hf14_1.step hst
        replace hf20_1 := hf20_1.step hst
        replace hf24_1 := hf24_1.step hst
        replace hms := hms.ev he26
        replace hev := hev.then he26 (fun b hb => .inr (hfr.at 0 rfl b hb))
        replace hb16 := hb26
        refine x_end rfl ?_
        have hpk : MS w26 [[b4], [b0_7], [b16], M] := hms.pick [some 1, some 2, some 0, some 3] _ rfl
        have hsu : ∀ x ∈ fl [[b4], [b0_7], [b16], M], x ∈ fl [[b16], [b4], [b0_7], M] := pick_sub [some 1, some 2, some 0, some 3] _ rfl
        replace hs_p2 := hs_p2.sub hsu
        replace hs_p1_0 := hs_p1_0.sub hsu
        replace hf7_2 := hf7_2.sub hsu
        replace hf24_1 := hf24_1.sub hsu
        replace hf20_1 := hf20_1.sub hsu
        replace hms := hpk
        replace hfr : FR w.heap.size [[b4], [b0_7], [b16]] := hfr.pick [some 1, some 2, some 0] _ rfl
        clear hpk hsu
        exact k_then ⟨(x23.2, x23.1.1, x23.1.2, a0_24, c0_24), ⟨rfl, rfl, rfl, rfl, rfl, rfl, trivial⟩, h, hev, hms, hfr, hs_p2, hs_p1_0, hb4, hf7_2, hf7_1, hf24_1, hb16, hf20_1⟩
      replace h := ite_f hb h
      refine c_skip ?_
      have hpk : MS w20 [[b4], [b0_7], [b16], M] := hms.pick [some 1, some 2, some 0, some 3] _ rfl
      have hsu : ∀ x ∈ fl [[b4], [b0_7], [b16], M], x ∈ fl [[b16], [b4], [b0_7], M] := pick_sub [some 1, some 2, some 0, some 3] _ rfl
      replace hs_p2 := hs_p2.sub hsu
      replace hs_p1_0 := hs_p1_0.sub hsu
      replace hf7_2 := hf7_2.sub hsu
      replace hf14_1 := hf14_1.sub hsu
      replace hf20_1 := hf20_1.sub hsu
      replace hms := hpk
      replace hfr : FR w.heap.size [[b4], [b0_7], [b16]] := hfr.pick [some 1, some 2, some 0] _ rfl
      clear hpk hsu
      exact k_then ⟨(x19.2, x13.1.1, x13.1.2, a0_14, c0_14), ⟨rfl, rfl, rfl, rfl, rfl, rfl, trivial⟩, h, hev, hms, hfr, hs_p2, hs_p1_0, hb4, hf7_2, hf7_1, hf14_1, hb16, hf20_1⟩
    rintro ⟨e8_j22_1, d25_j22, e17_j22_1, a25_j22, c25_j22⟩ J wj22 ⟨h, hev, hms, hfr, hs_p2, hs_p1_0, hb4, hf7_2, hf7_1, hj25_j22, hb16, hf20_1⟩
    refine c_seq (c_plain ?_)
    refine x_load (xv := .pointer (some ⟨b16, 0, none⟩)) (.agg #[.slice a25_j22 (d25_j22).length c25_j22, .int .i64 e17_j22_1]) rfl rfl rfl (reads_boxagg 0 [.slice a25_j22 (d25_j22).length c25_j22, .int .i64 e17_j22_1] tagg24 hb16 nn rfl) ?_
    refine x_pure 1 [(28, .slice a0_20 (x19.1).length c0_20)] _ _ _ (by kernel_rfl) ?_
    obtain ⟨x27, hx, h⟩ := bind_some h
    have hpk : MS wj22 ([] ++ [[b4], [b0_7], [b16], M]) := hms.pick [some 0, some 1, some 2, some 3] _ rfl
    have hsb0 : ∀ x ∈ fl ([] ++ [[b4], [b0_7], [b16], M]), x ∈ fl [[b4], [b0_7], [b16], M] := pick_sub [some 0, some 1, some 2, some 3] _ rfl
    have hsb : ∀ x ∈ fl ([] ++ [(fl [[b4], [b0_7], [b16], M])]), x ∈ fl [[b4], [b0_7], [b16], M] := fun x hx => hsb0 x (fl_unfold x hx)
    have hcall := law13_exact_w a25_j22 c25_j22 d25_j22 e17_j22_1 a0_20 c0_20 x19.1 _ wj22 (fl [[b4], [b0_7], [b16], M]) (MS.fold (P := []) hpk) (hj25_j22.sub hsb) (hf20_1.sub hsb) hx
    refine x_call 18 #[] #[] [.agg #[.slice a25_j22 (d25_j22).length c25_j22, .int .i64 e17_j22_1], .slice a0_20 (x19.1).length c0_20] _ rfl rfl rfl rfl hcall ?_
    rintro v w28 ⟨rfl, he28⟩
    clear hcall hx
    refine ⟨.inl rfl, ?_⟩
    have hst := Stp.ext (ls := [[b4], [b0_7], [b16], M]) he28
    replace hs_p2 := hs_p2.step hst
    replace hb4 := he28.box hb4 nn
    replace hs_p1_0 := hs_p1_0.step hst
    replace hf7_1 := he28.box hf7_1 nn
    replace hf7_2 := hf7_2.step hst
    replace hb16 := he28.box hb16 nn
    replace hj25_j22 := hj25_j22.step hst
    replace hf20_1 := hf20_1.step hst
    replace hms := hms.ev he28
    replace hev := hev.ext he28
    clear hpk hsb hsb0
    refine x_pure 1 [(30, .bool (!x27))] _ _ _ (by kernel_rfl) ?_
    refine x_end rfl (k_then ?_)
    refine c_norm [(2, .slice a_p2 (p2).length c_p2), (4, .pointer (some ⟨b4, 0, none⟩)), (7, .pointer (some ⟨b0_7, 0, none⟩)), (8, .int .i64 i_s8_l11), (30, .bool (!x27))] ⟨rfl, rfl, rfl, rfl, rfl, trivial⟩ (fun J => ?_)
    refine c_cond (!x27) rfl (fun hb => ?_) (fun hb => ?_)
    · replace h := ite_t hb h
      refine c_seq (c_plain ?_)
      refine x_pure 1 [(6, .bool false)] _ _ _ (by kernel_rfl) ?_
      refine x_end rfl (k_then ?_)
      refine c_ret ?_
      refine k_block_ret ?_
      refine k_then_ret ?_
      have hx := some_inj h
      subst hx
      have hy := some_inj hn11
      subst hy
      replace h := h11
      refine k_then_ret ?_
      refine k_block_ret ?_
      refine k_then_ret ?_
      refine r_ret (r_vals [.bool false] ⟨rfl, trivial⟩ ?_)
      have hx := some_inj h
      subst hx
      have hmr : MS w28 [M] := hms.pick [some 3] _ rfl
      have hsu : ∀ x ∈ fl [M], x ∈ fl [[b4], [b0_7], [b16], M] := pick_sub [some 3] _ rfl
      exact ⟨rfl, hev⟩
    replace h := ite_f hb h
    refine c_skip ?_
    refine k_block ?_
    refine k_then ?_
    refine c_plain ?_
    refine x_pure 3 [(15, .int .i64 i_s8_l11), (16, .int .i64 (IntKind.i64.wrap (i_s8_l11 + 1))), (8, .int .i64 (IntKind.i64.wrap (i_s8_l11 + 1)))] _ _ _ (by kernel_rfl) ?_
    refine x_end rfl ?_
    have hx := some_inj h
    subst hx
    have hpk : MS w28 [[b4], [b0_7], M] := hms.pick [some 0, some 1, some 3] _ rfl
    have hsu : ∀ x ∈ fl [[b4], [b0_7], M], x ∈ fl [[b4], [b0_7], [b16], M] := pick_sub [some 0, some 1, some 3] _ rfl
    replace hs_p2 := hs_p2.sub hsu
    replace hs_p1_0 := hs_p1_0.sub hsu
    replace hf7_2 := hf7_2.sub hsu
    replace hms := hpk
    replace hfr : FR w.heap.size [[b4], [b0_7]] := hfr.pick [some 0, some 1] _ rfl
    clear hpk hsu
    exact k_then ⟨(m11, e8_j22_1, IntKind.i64.wrap (i_s8_l11 + 1)), ⟨rfl, rfl, rfl, rfl, trivial⟩, ⟨hn11, hev, hms, hfr, hs_p2, hs_p1_0, hb4, hf7_2, hf7_1⟩, Nat.lt_succ_self _⟩
  replace h := ite_f hb h
  refine c_exit ?_
  refine k_then_exit ?_
  have hx := some_inj h
  subst hx
  have hy := some_inj hn11
  subst hy
  replace h := h11
  refine k_then_exit ?_
  refine k_block_in ?_
  refine k_then ?_
  refine c_norm [(2, .slice a_p2 (p2).length c_p2), (4, .pointer (some ⟨b4, 0, none⟩))] ⟨rfl, rfl, trivial⟩ (fun J => ?_)
  refine c_seq (c_plain ?_)
  refine x_fieldAddr (xv := .pointer (some ⟨b4, 0, none⟩)) (.pointer (some ⟨b4, 0, none⟩)) rfl rfl rfl (reads_field tfld24_0 _ _) ?_
  refine x_load (xv := .pointer (some ⟨b4, 0, none⟩)) (.slice a_p1_0 (p1_0).length c_p1_0) rfl rfl rfl (reads_box tcell22 hb4 nn 0 _ rfl) ?_
  refine x_len (vs := [.slice a_p1_0 (p1_0).length c_p1_0]) (.int .i64 ((p1_0).length : Int)) rfl rfl rfl (reads_len tsl22 _ _ _ _ _) ?_
  refine x_pure 2 [(34, .bool (decide (((p1_0).length : Int) > 30))), (35, .bool (decide (((p1_0).length : Int) > 30)))] _ _ _ (by kernel_rfl) ?_
  refine x_split 35 (decide (((p1_0).length : Int) > 30)) rfl (fun hb => ?_) (fun hb => ?_)
  · replace h := ite_t hb h
    refine x_pure 18 [(36, undef), (37, undef), (38, undef), (39, .bool true), (40, .bool true), (41, undef), (42, undef), (43, undef), (44, undef), (45, undef), (46, undef), (47, undef), (48, undef), (49, undef), (50, undef), (51, undef), (52, .bool true), (6, .bool true)] _ _ _ (by kernel_rfl) ?_
    refine x_end rfl (k_then ?_)
    refine c_norm [(6, .bool true)] ⟨rfl, trivial⟩ (fun J => ?_)
    refine c_ret ?_
    refine r_ret (r_vals [.bool true] ⟨rfl, trivial⟩ ?_)
    have hx := some_inj h
    subst hx
    have hmr : MS wl11 [M] := hms.pick [some 2] _ rfl
    have hsu : ∀ x ∈ fl [M], x ∈ fl [[b4], [b0_7], M] := pick_sub [some 2] _ rfl
    exact ⟨rfl, hev⟩
  replace h := ite_f hb h
  refine x_pure 1 [(36, .slice a_p2 (p2).length c_p2)] _ _ _ (by kernel_rfl) ?_
  refine x_len (vs := [.slice a_p2 (p2).length c_p2]) (.int .i64 ((p2).length : Int)) rfl rfl rfl (reads_len tsl27 _ _ _ _ _) ?_
  refine x_pure 3 [(38, .bool (decide (((p2).length : Int) > 60))), (39, .bool (decide (((p2).length : Int) > 60))), (40, .bool (decide (((p2).length : Int) > 60)))] _ _ _ (by kernel_rfl) ?_
  refine x_split 40 (decide (((p2).length : Int) > 60)) rfl (fun hb => ?_) (fun hb => ?_)
  · replace h := ite_t hb h
    refine x_pure 13 [(41, undef), (42, undef), (43, undef), (44, undef), (45, undef), (46, undef), (47, undef), (48, undef), (49, undef), (50, undef), (51, undef), (52, .bool true), (6, .bool true)] _ _ _ (by kernel_rfl) ?_
    refine x_end rfl (k_then ?_)
    refine c_norm [(6, .bool true)] ⟨rfl, trivial⟩ (fun J => ?_)
    refine c_ret ?_
    refine r_ret (r_vals [.bool true] ⟨rfl, trivial⟩ ?_)
    have hx := some_inj h
    subst hx
    have hmr : MS wl11 [M] := hms.pick [some 2] _ rfl
    have hsu : ∀ x ∈ fl [M], x ∈ fl [[b4], [b0_7], M] := pick_sub [some 2] _ rfl
    exact ⟨rfl, hev⟩
  replace h := ite_f hb h
  refine x_load (xv := .pointer (some ⟨b4, 0, none⟩)) (.agg #[.slice a_p1_0 (p1_0).length c_p1_0, .int .i64 p1_1]) rfl rfl rfl (reads_boxagg 0 [.slice a_p1_0 (p1_0).length c_p1_0, .int .i64 p1_1] tagg24 hb4 nn rfl) ?_
  refine x_pure 1 [(42, .slice a_p2 (p2).length c_p2)] _ _ _ (by kernel_rfl) ?_
  obtain ⟨x29, hx, h⟩ := bind_some h
  have hpk : MS wl11 ([] ++ [[b4], [b0_7], M]) := hms.pick [some 0, some 1, some 2] _ rfl
  have hsb0 : ∀ x ∈ fl ([] ++ [[b4], [b0_7], M]), x ∈ fl [[b4], [b0_7], M] := pick_sub [some 0, some 1, some 2] _ rfl
  have hsb : ∀ x ∈ fl ([] ++ [(fl [[b4], [b0_7], M])]), x ∈ fl [[b4], [b0_7], M] := fun x hx => hsb0 x (fl_unfold x hx)
  have hcall := law13_exact_w a_p1_0 c_p1_0 p1_0 p1_1 a_p2 c_p2 p2 _ wl11 (fl [[b4], [b0_7], M]) (MS.fold (P := []) hpk) (hs_p1_0.sub hsb) (hs_p2.sub hsb) hx
  refine x_call 18 #[] #[] [.agg #[.slice a_p1_0 (p1_0).length c_p1_0, .int .i64 p1_1], .slice a_p2 (p2).length c_p2] _ rfl rfl rfl rfl hcall ?_
  rintro v w30 ⟨rfl, he30⟩
  clear hcall hx
  refine ⟨.inl rfl, ?_⟩
  have hst := Stp.ext (ls := [[b4], [b0_7], M]) he30
  replace hs_p2 := hs_p2.step hst
  replace hb4 := he30.box hb4 nn
  replace hs_p1_0 := hs_p1_0.step hst
  replace hf7_1 := he30.box hf7_1 nn
  replace hf7_2 := hf7_2.step hst
  replace hms := hms.ev he30
  replace hev := hev.ext he30
  clear hpk hsb hsb0
  refine x_pure 1 [(44, .bool x29)] _ _ _ (by kernel_rfl) ?_
  refine x_split 44 x29 rfl (fun hb => ?_) (fun hb => ?_)
  · replace h := ite_t hb h
    obtain ⟨x31, hx, h⟩ := bind_some h
    have hpk : MS w30 ([] ++ [[b4], [b0_7], M]) := hms.pick [some 0, some 1, some 2] _ rfl
    have hsb0 : ∀ x ∈ fl ([] ++ [[b4], [b0_7], M]), x ∈ fl [[b4], [b0_7], M] := pick_sub [some 0, some 1, some 2] _ rfl
    have hsb : ∀ x ∈ fl ([] ++ [(fl [[b4], [b0_7], M])]), x ∈ fl [[b4], [b0_7], M] := fun x hx => hsb0 x (fl_unfold x hx)
    have hcall := law13_four_w 3 _ w30 (fl [[b4], [b0_7], M]) (MS.fold (P := []) hpk)  hx
    refine x_call 19 #[] #[] [.int .i64 3] _ rfl rfl rfl rfl hcall ?_
    rintro v w32 ⟨a0_32, c0_32, rfl, he32, hf32_1⟩
    clear hcall hx
    refine ⟨.inl rfl, ?_⟩
    have hst := Stp.ext (ls := [[b4], [b0_7], M]) he32
    replace hs_p2 := hs_p2.step hst
    replace hb4 := he32.box hb4 nn
    replace hs_p1_0 := hs_p1_0.step hst
    replace hf7_1 := he32.box hf7_1 nn
    replace hf7_2 := hf7_2.step hst
    replace hms := hms.ev he32
    replace hev := hev.ext he32
    have hsp : ∀ x ∈ fl [[b4], [b0_7], M], x ∈ fl ([] ++ [(fl [[b4], [b0_7], M])]) := fun x hx => fl_fold (P := []) x (pick_sup [some 0, some 1, some 2] [[b4], [b0_7], M] rfl rfl x hx)
    replace hf32_1 := hf32_1.sub hsp
    clear hpk hsb hsb0
    refine x_pure 1 [(46, .slice a_p2 (p2).length c_p2)] _ _ _ (by kernel_rfl) ?_
    obtain ⟨x34, hx, h⟩ := bind_some h
    have hpk : MS w32 ([] ++ [[b4], [b0_7], M]) := hms.pick [some 0, some 1, some 2] _ rfl
    have hsb0 : ∀ x ∈ fl ([] ++ [[b4], [b0_7], M]), x ∈ fl [[b4], [b0_7], M] := pick_sub [some 0, some 1, some 2] _ rfl
    have hsb : ∀ x ∈ fl ([] ++ [(fl [[b4], [b0_7], M])]), x ∈ fl [[b4], [b0_7], M] := fun x hx => hsb0 x (fl_unfold x hx)
    have hcall := law13_exact_w a0_32 c0_32 x31.1 x31.2 a_p2 c_p2 p2 _ w32 (fl [[b4], [b0_7], M]) (MS.fold (P := []) hpk) (hf32_1.sub hsb) (hs_p2.sub hsb) hx
    refine x_call 18 #[] #[] [.agg #[.slice a0_32 (x31.1).length c0_32, .int .i64 x31.2], .slice a_p2 (p2).length c_p2] _ rfl rfl rfl rfl hcall ?_
    rintro v w35 ⟨rfl, he35⟩
    clear hcall hx
    refine ⟨.inl rfl, ?_⟩
    have hst := Stp.ext (ls := [[b4], [b0_7], M]) he35
    replace hs_p2 := hs_p2.step hst
    replace hb4 := he35.box hb4 nn
    replace hs_p1_0 := hs_p1_0.step hst
    replace hf7_1 := he35.box hf7_1 nn
    replace hf7_2 := hf7_2.step hst
    replace hf32_1 := hf32_1.step hst
    replace hms := hms.ev he35
    replace hev := hev.ext he35
    clear hpk hsb hsb0
    refine x_pure 2 [(48, .bool x34), (49, .bool x34)] _ _ _ (by kernel_rfl) ?_
    refine x_split 49 x34 rfl (fun hb => ?_) (fun hb => ?_)
    · replace h := ite_t hb h
      obtain ⟨x36, hx, h⟩ := bind_some h
      have hcall := law13_sane_w _ w35 hx
      refine x_call 13 #[] #[] [] _ rfl rfl rfl rfl hcall ?_
      rintro v w37 ⟨rfl, he37⟩
      clear hcall hx
      refine ⟨.inl rfl, ?_⟩
      have hst := Stp.ext (ls := [[b4], [b0_7], M]) he37
      replace hs_p2 := hs_p2.step hst
      replace hb4 := he37.box hb4 nn
      replace hs_p1_0 := hs_p1_0.step hst
      replace hf7_1 := he37.box hf7_1 nn
      replace hf7_2 := hf7_2.step hst
      replace hf32_1 := hf32_1.step hst
      replace hms := hms.ev he37
      replace hev := hev.ext he37
      refine x_pure 3 [(51, .bool x36), (52, .bool x36), (6, .bool x36)] _ _ _ (by kernel_rfl) ?_
      refine x_end rfl (k_then ?_)
      refine c_norm [(6, .bool x36)] ⟨rfl, trivial⟩ (fun J => ?_)
      refine c_ret ?_
      refine r_ret (r_vals [.bool x36] ⟨rfl, trivial⟩ ?_)
      have hx := some_inj h
      subst hx
      have hmr : MS w37 [M] := hms.pick [some 2] _ rfl
      have hsu : ∀ x ∈ fl [M], x ∈ fl [[b4], [b0_7], M] := pick_sub [some 2] _ rfl
      exact ⟨rfl, hev⟩
    replace h := ite_f hb h
    refine x_pure 4 [(50, undef), (51, .bool false), (52, .bool false), (6, .bool false)] _ _ _ (by kernel_rfl) ?_
    refine x_end rfl (k_then ?_)
    refine c_norm [(6, .bool false)] ⟨rfl, trivial⟩ (fun J => ?_)
    refine c_ret ?_
    refine r_ret (r_vals [.bool false] ⟨rfl, trivial⟩ ?_)
    have hx := some_inj h
    subst hx
    have hmr : MS w35 [M] := hms.pick [some 2] _ rfl
    have hsu : ∀ x ∈ fl [M], x ∈ fl [[b4], [b0_7], M] := pick_sub [some 2] _ rfl
    exact ⟨rfl, hev⟩
  replace h := ite_f hb h
  refine x_pure 9 [(45, undef), (46, undef), (47, undef), (48, .bool false), (49, .bool false), (50, undef), (51, .bool false), (52, .bool false), (6, .bool false)] _ _ _ (by kernel_rfl) ?_
  refine x_end rfl (k_then ?_)
  refine c_norm [(6, .bool false)] ⟨rfl, trivial⟩ (fun J => ?_)
  refine c_ret ?_
  refine r_ret (r_vals [.bool false] ⟨rfl, trivial⟩ ?_)
  have hx := some_inj h
  subst hx
  have hmr : MS w30 [M] := hms.pick [some 2] _ rfl
  have hsu : ∀ x ∈ fl [M], x ∈ fl [[b4], [b0_7], M] := pick_sub [some 2] _ rfl
  exact ⟨rfl, hev⟩
end Go.Proofs.Ytgdaanhiagoonaa
