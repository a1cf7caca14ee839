/- Walks, printed by program: each function returns what the partial function of the same name returns. Conditions: those of each theorem. -/
import Derived.Test.YtmjobkpgnhbcbaaGT
import Derived.Test.YtmjobkpgnhbcbaaGgen
import Derived.Test.YtmjobkpgnhbcbaaGlaw14sane
import Derived.Test.YtmjobkpgnhbcbaaGleastcode
import Derived.Test.YtmjobkpgnhbcbaaGrollin
set_option linter.unusedVariables false
set_option linter.unusedSimpArgs false
set_option maxRecDepth 4000
namespace Go.Proofs.Ytmjobkpgnhbcbaa
open Go Go.V Go.Proofs
def law14_RollinPushes_L13 (x6 : ((List (Int × Int × Int × Int)) × Int) × Int) (s : (List (Int × Int × Int × Int)) × Int) : Option (Step ((List (Int × Int × Int × Int)) × Int) (List (Int × Int × Int × Int))) :=
match s with
| (d8_l13, t15__s15_l13) =>
(if (decide (t15__s15_l13 < ((x6.1.1).length : Int))) = true then
((idx d8_l13 t15__s15_l13).bind fun x14 =>
some (.next ((d8_l13.set (Int.toNat t15__s15_l13) (x14.1, x14.2.1, 0, x14.2.2.2)), IntKind.i64.wrap (t15__s15_l13 + 1))))
else
some (.done d8_l13))

def law14_RollinPushes (p0 : List Int) : Option Bool :=
((gen_New p0).bind fun x2 =>
((gen_Maker_Job x2.1 x2.2 16).bind fun x6 =>
((loop (law14_RollinPushes_L13 x6) (x6.1.1, 0)).bind fun d => match d with
| d8_x13 => ((leastcode_Least d8_x13 x6.1.2).bind fun x17 =>
(if (x17.2 != 0) = true then
(if (x17.2 == 15) = true then
((law14_sane).bind fun x24 =>
some x24)
else
some false)
else
((rollin_Pushes d8_x13 x6.1.2 x17.1.1 x17.1.2).bind fun x26 =>
(if (x26.2 == 0) = true then
(if (((d8_x13).length : Int) == 0) = true then
(if (x26.1 == 0) = true then
((law14_sane).bind fun x28 =>
some x28)
else
(if (decide (((d8_x13).length : Int) > 0)) = true then
(if (x26.1 == (IntKind.i64.wrap (x17.1.1 + 1))) = true then
((law14_sane).bind fun x30 =>
some x30)
else
some false)
else
some false))
else
(if (decide (((d8_x13).length : Int) > 0)) = true then
(if (x26.1 == (IntKind.i64.wrap (x17.1.1 + 1))) = true then
((law14_sane).bind fun x32 =>
some x32)
else
some false)
else
some false))
else
some false)))))))

theorem law14_RollinPushes_w (a_p0 : Option Addr) (c_p0 : Nat) (p0 : List Int) (r : Bool) (w : World) (M : List Nat) (hms : MS w [M]) (hs_p0 : SlR (eInt .i64) w (fl [M]) a_p0 c_p0 p0) (h : law14_RollinPushes p0 = some r) : CallVC Try.prog 9 [.slice a_p0 (p0).length c_p0] w fun v w' => v = .bool r ∧ Ev [] w w' := by
  refine calls_vc hmx Try.func9 (by kernel_rfl) rfl (rs := [.tmp 2]) rfl (by kernel_rfl) (args := [.slice a_p0 (p0).length c_p0]) rfl ?_
  have hev : Ev [] w w := Ev.refl _ _
  have hfr : FR w.heap.size [] := FR.nil _
  refine c_seq (c_plain ?_)
  refine x_pure 1 [(2, .bool false)] _ _ _ (by kernel_rfl) ?_
  refine x_end rfl (k_then ?_)
  refine c_seq (c_plain ?_)
  refine x_pure 1 [(9, .slice a_p0 (p0).length c_p0)] _ _ _ (by kernel_rfl) ?_
  obtain ⟨x2, hx, h⟩ := bind_some h
  have hpk : MS w ([] ++ [M]) := hms.pick [some 0] _ rfl
  have hsb0 : ∀ x ∈ fl ([] ++ [M]), x ∈ fl [M] := pick_sub [some 0] _ rfl
  have hsb : ∀ x ∈ fl ([] ++ [(fl [M])]), x ∈ fl [M] := fun x hx => hsb0 x (fl_unfold x hx)
  have hcall := gen_New_w a_p0 c_p0 p0 _ w (fl [M]) (MS.fold (P := []) hpk) (hs_p0.sub hsb) hx
  refine x_call 11 #[] #[] [.slice a_p0 (p0).length c_p0] _ rfl rfl rfl rfl hcall ?_
  rintro v w3 ⟨b0_3, a1_3, c1_3, rfl, he3, hmn3, hfn3, hf3_1, hf3_2⟩
  clear hcall hx
  refine ⟨.inl rfl, ?_⟩
  have hpk2 : MS w ([] ++ [M]) := hms.pick [some 0] _ rfl
  have hsb2 : ∀ x ∈ fl ([] ++ [M]), x ∈ fl [M] := pick_sub [some 0] _ rfl
  have hst0 := Stp.call (LS := [M]) (res := [[b0_3]]) (par := []) (R := [M]) he3 (fun b hb => hsb2 b (fl_left' (P := []) b hb)) hfn3 (NP.init _ _) (fun x hx => hsb2 x (fl_right' (P := []) x hx))
  have hsn : ∀ x ∈ fl [[b0_3], M], x ∈ fl ([[b0_3]] ++ ([] ++ [M])) := pick_sub [some 0, some 1] _ rfl
  have hst := hst0.res hsn
  replace hs_p0 := hs_p0.step hst
  replace hms : MS w3 [[b0_3], M] := (MS.call (P := []) (R := [M]) (res := [[b0_3]]) (par := []) hpk2 he3 hmn3 hfn3 (NP.init _ _)).pick [some 0, some 1] _ rfl
  have hfr2 : FR w.heap.size [[b0_3]] := (FR.cons (fun b hb => Nat.le_trans hev.size (hfn3.at 0 rfl b hb)) (FR.nil _))
  replace hev := hev.ext he3
  replace hfr := hfr2
  clear hfr2
  have hsp : ∀ x ∈ fl [[b0_3], M], x ∈ fl ([[b0_3]] ++ ([] ++ [(fl [M])])) := fun x hx => fl_tot (res := [[b0_3]]) (par := []) (R := [M]) x (hsn x hx)
  replace hf3_2 := hf3_2.sub hsp
  clear hpk hsb hsb0 hpk2 hsb2 hst0 hsn hst
  obtain ⟨x6, hx, h⟩ := bind_some h
  have hpk : MS w3 ([[b0_3]] ++ [M]) := hms.pick [some 0, some 1] _ rfl
  have hsb0 : ∀ x ∈ fl ([[b0_3]] ++ [M]), x ∈ fl [[b0_3], M] := pick_sub [some 0, some 1] _ rfl
  have hsb : ∀ x ∈ fl ([[b0_3]] ++ [(fl [M])]), x ∈ fl [[b0_3], M] := fun x hx => hsb0 x (fl_unfold x hx)
  have hcall := gen_Maker_Job_w b0_3 a1_3 c1_3 x2.1 x2.2 16 _ w3 (fl [M]) (hpk.fold (P := [[b0_3]])) (hf3_2.sub hsb) hf3_1 hx
  refine x_call 12 #[] #[] [.pointer (some ⟨b0_3, 0, none⟩), .int .i64 16] _ rfl rfl rfl rfl hcall ?_
  rintro v w7 ⟨a0_7, c0_7, rfl, he7, hp7_0, hmn7, hfn7, hf7_1⟩
  clear hcall hx
  refine ⟨.inl rfl, ?_⟩
  have hpk2 : MS w3 ([[b0_3]] ++ [M]) := hms.pick [some 0, some 1] _ rfl
  have hsb2 : ∀ x ∈ fl ([[b0_3]] ++ [M]), x ∈ fl [[b0_3], M] := pick_sub [some 0, some 1] _ rfl
  have hst0 := Stp.call (LS := [[b0_3], M]) (res := [blk a0_7]) (par := [[b0_3]]) (R := [M]) he7 (fun b hb => hsb2 b (fl_left' (P := [[b0_3]]) b hb)) hfn7 (NP.init _ _) (fun x hx => hsb2 x (fl_right' (P := [[b0_3]]) x hx))
  have hsn : ∀ x ∈ fl [blk a0_7, [b0_3], M], x ∈ fl ([blk a0_7] ++ ([[b0_3]] ++ [M])) := pick_sub [some 0, some 1, some 2] _ rfl
  have hst := hst0.res hsn
  replace hs_p0 := hs_p0.step hst
  replace hf3_2 := hf3_2.step hst
  replace hms : MS w7 [blk a0_7, [b0_3], M] := (MS.call (P := [[b0_3]]) (R := [M]) (res := [blk a0_7]) (par := [[b0_3]]) hpk2 he7 hmn7 hfn7 (NP.init _ _)).pick [some 0, some 1, some 2] _ rfl
  have hPf : ∀ b ∈ fl [[b0_3]], w.heap.size ≤ b := FR.mem (ls := [[b0_3]]) (hfr.pick [some 0] _ rfl)
  have hfr2 : FR w.heap.size [blk a0_7, [b0_3]] := (FR.cons (fun b hb => Nat.le_trans hev.size (hfn7.at 0 rfl b hb)) (FR.cons (hfr.at 0 rfl) (FR.nil _)))
  replace hev := hev.then he7 (fun b hb => .inr (hPf b hb))
  replace hfr := hfr2
  clear hfr2
  replace hf3_1 := hp7_0
  replace hf7_1 := OwnS.plain (M' := fl [blk a0_7, [b0_3], M]) (plain_prod (plain_int _) (plain_prod (plain_int _) (plain_prod (plain_int _) (plain_int _)))) hf7_1
  clear hpk hsb hsb0 hpk2 hsb2 hst0 hsn hst
  refine x_alloc (z := .agg #[.slice none 0 0, .int .i64 0]) rfl rfl (by kernel_rfl) (fun b9 w9 hq9 hb9 he9 hz9 => ?_)
  replace hb9 : w9.heap[b9]? = some (.cells #[.slice none 0 0, .int .i64 0] 27 (0, 0)) := hb9
  refine ⟨.inl rfl, ?_⟩
  have hst := Stp.box (ls := [blk a0_7, [b0_3], M]) he9 hq9
  replace hs_p0 := hs_p0.step hst
  replace hf3_1 := he9.box hf3_1 nn
  replace hf3_2 := hf3_2.step hst
  replace hf7_1 := hf7_1.step hst he9 nn2
  replace hms := hms.box he9 hq9 hb9
  replace hfr := hfr.box hev.size hq9
  replace hev := hev.ext he9
  obtain ⟨w11, hr11, hb11, he11⟩ := store_boxagg 0 [.slice a0_7 (x6.1.1).length c0_7, .int .i64 x6.1.2] #[.slice a0_7 (x6.1.1).length c0_7, .int .i64 x6.1.2] tagg27 hb9 rfl rfl rfl
  refine x_store w11 (xv := .pointer (some ⟨b9, 0, none⟩)) (yv := .agg #[.slice a0_7 (x6.1.1).length c0_7, .int .i64 x6.1.2]) rfl rfl rfl rfl hr11 ?_
  refine ⟨.inl rfl, ?_⟩
  have hst := Stp.ev' (ls := [[b9], blk a0_7, [b0_3], M]) he11 (mem_flat 0 rfl)
  replace hs_p0 := hs_p0.step hst
  replace hf3_1 := he11.box hf3_1 (hms.apart 2 0 rfl rfl rfl _ (List.mem_singleton.2 rfl))
  replace hf3_2 := hf3_2.step hst
  replace hf7_1 := hf7_1.step hst he11 (hms.apart 1 0 rfl rfl rfl)
  replace hms := hms.ev he11
  replace hev := hev.then he11 (fun b hb => .inr (hfr.at 0 rfl b hb))
  replace hb9 := hb11
  refine x_end rfl (k_then ?_)
  refine c_seq ?_
  refine c_seq (c_plain ?_)
  refine x_fieldAddr (xv := .pointer (some ⟨b9, 0, none⟩)) (.pointer (some ⟨b9, 0, none⟩)) rfl rfl rfl (reads_field tfld27_0 _ _) ?_
  refine x_load (xv := .pointer (some ⟨b9, 0, none⟩)) (.slice a0_7 (x6.1.1).length c0_7) rfl rfl rfl (reads_box tcell25 hb9 nn 0 _ rfl) ?_
  refine x_len (vs := [.slice a0_7 (x6.1.1).length c0_7]) (.int .i64 ((x6.1.1).length : Int)) rfl rfl rfl (reads_len tsl25 _ _ _ _ _) ?_
  refine x_pure 1 [(15, .int .i64 0)] _ _ _ (by kernel_rfl) ?_
  refine x_end rfl (k_then ?_)
  refine c_block ?_
  have hpk : MS w11 [blk a0_7, [b9], M] := hms.pick [some 1, some 0, some 3] _ rfl
  have hsu : ∀ x ∈ fl [blk a0_7, [b9], M], x ∈ fl [[b9], blk a0_7, [b0_3], M] := pick_sub [some 1, some 0, some 3] _ rfl
  replace hf7_1 := hf7_1.sub hsu
  replace hms := hpk
  replace hfr : FR w.heap.size [blk a0_7, [b9]] := hfr.pick [some 1, some 0] _ rfl
  clear hpk hsu
  obtain ⟨d13, hd13, h13⟩ := bind_some h
  obtain ⟨m13, hd13⟩ := loop_some hd13
  refine c_loop (loop_rule hmx (σ := Nat × (List (Int × Int × Int × Int)) × Int × Option Addr) (fun s => match s with | (_, d8_l13, t15__s15_l13, a8_l13) => [(3, .pointer (some ⟨b9, 0, none⟩)), (14, .int .i64 ((x6.1.1).length : Int)), (15, .int .i64 t15__s15_l13)]) (fun s w' => match s with | (m, d8_l13, t15__s15_l13, a8_l13) => loopN (law14_RollinPushes_L13 x6) m (d8_l13, t15__s15_l13) = some d13 ∧ Ev [] w w' ∧ MS w' [blk a8_l13, [b9], M] ∧ FR w.heap.size [blk a8_l13, [b9]] ∧ OwnS (eProd (eInt .i64) (eProd (eInt .i64) (eProd (eInt .i64) (eInt .i64)))) 39 w' (fl [blk a8_l13, [b9], M]) a8_l13 c0_7 d8_l13 ∧ w'.heap[b9]? = some (.cells #[.slice a8_l13 (d8_l13).length c0_7, .int .i64 x6.1.2] 27 (0, 0))) (fun s => s.1) (m13, x6.1.1, 0, a0_7) ⟨rfl, rfl, rfl, trivial⟩ ⟨hd13, hev, hms, hfr, hf7_1, hb9⟩ ?_)
  rintro ⟨m13, d8_l13, t15__s15_l13, a8_l13⟩ J wl13 ⟨hn13, hev, hms, hfr, hf7_1, hb9⟩
  rcases m13 with _ | m13
  · exact (loopN_zero hn13).elim
  obtain ⟨t13, h, hn13⟩ := bind_some hn13
  refine c_seq (c_plain ?_)
  refine x_pure 1 [(16, .bool (decide (t15__s15_l13 < ((x6.1.1).length : Int))))] _ _ _ (by kernel_rfl) ?_
  refine x_end rfl (k_then ?_)
  refine c_norm [(3, .pointer (some ⟨b9, 0, none⟩)), (14, .int .i64 ((x6.1.1).length : Int)), (15, .int .i64 t15__s15_l13), (16, .bool (decide (t15__s15_l13 < ((x6.1.1).length : Int))))] ⟨rfl, rfl, rfl, rfl, trivial⟩ (fun J => ?_)
  refine c_seq ?_
  refine c_cond (decide (t15__s15_l13 < ((x6.1.1).length : Int))) rfl (fun hb => ?_) (fun hb => ?_)
  · replace h := ite_t hb h
    refine c_skip ?_
    refine k_then ?_
    refine c_seq ?_
    refine c_block ?_
    refine c_seq (c_plain ?_)
    refine x_pure 2 [(17, .int .i64 t15__s15_l13), (4, .int .i64 t15__s15_l13)] _ _ _ (by kernel_rfl) ?_
    refine x_end rfl (k_then ?_)
    refine c_plain ?_
    refine x_fieldAddr (xv := .pointer (some ⟨b9, 0, none⟩)) (.pointer (some ⟨b9, 0, none⟩)) rfl rfl rfl (reads_field tfld27_0 _ _) ?_
    refine x_load (xv := .pointer (some ⟨b9, 0, none⟩)) (.slice a8_l13 (d8_l13).length c0_7) rfl rfl rfl (reads_box tcell25 hb9 nn 0 _ rfl) ?_
    refine x_pure 1 [(20, .int .i64 t15__s15_l13)] _ _ _ (by kernel_rfl) ?_
    obtain ⟨x14, hx14, h⟩ := bind_some h
    obtain ⟨g14, cs14, ha, hr14, hc14, hR⟩ := own_index (Mo := []) tsl25 hf7_1 hx14
    subst ha
    obtain ⟨_, _, rfl, rfl, ⟨_, _, rfl, rfl, ⟨_, _, rfl, rfl, rfl⟩⟩⟩ := hR
    refine x_indexAddr (xv := .slice (some ⟨g14, 0, none⟩) (d8_l13).length c0_7) (yv := .int .i64 t15__s15_l13) (.pointer (some ⟨g14, (Int.toNat t15__s15_l13) * (eProd (eInt .i64) (eProd (eInt .i64) (eProd (eInt .i64) (eInt .i64)))).n, none⟩)) rfl rfl rfl rfl hr14 ?_
    refine x_fieldAddr (xv := .pointer (some ⟨g14, (Int.toNat t15__s15_l13) * (eProd (eInt .i64) (eProd (eInt .i64) (eProd (eInt .i64) (eInt .i64)))).n, none⟩)) (.pointer (some ⟨g14, (Int.toNat t15__s15_l13) * (eProd (eInt .i64) (eProd (eInt .i64) (eProd (eInt .i64) (eInt .i64)))).n + 2, none⟩)) rfl rfl rfl (reads_field tfld39_2 _ _) ?_
    obtain ⟨w16, hr16, he16, ho16⟩ := own_store (y := (x14.1, x14.2.1, 0, x14.2.2.2)) 2 (.int .i64 0) tcell3 hf7_1 (mem_flat 0 rfl _ (List.mem_singleton.2 rfl)) hx14 rfl rfl (by intro w M cs hR; obtain ⟨_, _, rfl, rfl, ⟨_, _, rfl, rfl, ⟨_, _, rfl, rfl, rfl⟩⟩⟩ := hR; exact ⟨[_], _, rfl, rfl, ⟨[_], _, rfl, rfl, ⟨[_], _, rfl, rfl, rfl⟩⟩⟩)
    refine x_store w16 (xv := .pointer (some ⟨g14, (Int.toNat t15__s15_l13) * (eProd (eInt .i64) (eProd (eInt .i64) (eProd (eInt .i64) (eInt .i64)))).n + 2, none⟩)) (yv := .int .i64 0) rfl rfl rfl rfl hr16 ?_
    refine ⟨.inl rfl, ?_⟩
    replace hb9 := he16.box hb9 (hms.apart 1 0 rfl rfl rfl _ (List.mem_singleton.2 rfl))
    replace hms := hms.ev he16
    replace hev := hev.then he16 (fun b hb => .inr (hfr.at 0 rfl b hb))
    replace hf7_1 := ho16
    have hsl : (Value.slice (some ⟨g14, 0, none⟩) (d8_l13).length c0_7) = (Value.slice (some ⟨g14, 0, none⟩) ((d8_l13.set (Int.toNat t15__s15_l13) (x14.1, x14.2.1, 0, x14.2.2.2))).length c0_7) := by first | (rw [List.length_set]; done) | simp only [List.length_set]
    rw [hsl] at hb9
    try rw [hsl]
    clear hsl
    refine x_end rfl ?_
    refine k_block ?_
    refine k_then ?_
    refine c_plain ?_
    refine x_pure 2 [(23, .int .i64 (IntKind.i64.wrap (t15__s15_l13 + 1))), (15, .int .i64 (IntKind.i64.wrap (t15__s15_l13 + 1)))] _ _ _ (by kernel_rfl) ?_
    refine x_end rfl ?_
    have hx := some_inj h
    subst hx
    exact k_then ⟨(m13, (d8_l13.set (Int.toNat t15__s15_l13) (x14.1, x14.2.1, 0, x14.2.2.2)), IntKind.i64.wrap (t15__s15_l13 + 1), (some ⟨g14, 0, none⟩)), ⟨rfl, rfl, rfl, trivial⟩, ⟨hn13, hev, hms, hfr, hf7_1, hb9⟩, Nat.lt_succ_self _⟩
  replace h := ite_f hb h
  refine c_exit ?_
  refine k_then_exit ?_
  have hx := some_inj h
  subst hx
  have hy := some_inj hn13
  subst hy
  replace h := h13
  refine k_then_exit ?_
  refine k_block_in ?_
  refine k_then ?_
  refine c_norm [(3, .pointer (some ⟨b9, 0, none⟩))] ⟨rfl, trivial⟩ (fun J => ?_)
  refine c_seq (c_plain ?_)
  refine x_load (xv := .pointer (some ⟨b9, 0, none⟩)) (.agg #[.slice a8_l13 (d8_l13).length c0_7, .int .i64 x6.1.2]) rfl rfl rfl (reads_boxagg 0 [.slice a8_l13 (d8_l13).length c0_7, .int .i64 x6.1.2] tagg27 hb9 nn rfl) ?_
  obtain ⟨x17, hx, h⟩ := bind_some h
  have hpk : MS wl13 ([] ++ [[b9], M]) := hms.pick [some 1, some 2] _ rfl
  have hsb0 : ∀ x ∈ fl ([] ++ [[b9], M]), x ∈ fl [blk a8_l13, [b9], M] := pick_sub [some 1, some 2] _ rfl
  have hsb : ∀ x ∈ fl ([] ++ [(fl [[b9], M])]), x ∈ fl [blk a8_l13, [b9], M] := fun x hx => hsb0 x (fl_unfold x hx)
  have hcall := leastcode_Least_w a8_l13 c0_7 d8_l13 x6.1.2 _ wl13 (fl [[b9], M]) (MS.fold (P := []) hpk) (hf7_1.ro hsb (fun b hb hb2 => pick_out hms 0 rfl [some 1, some 2] ([] ++ [[b9], M]) rfl rfl b hb (fl_unfold b hb2))) hx
  refine x_call 27 #[] #[] [.agg #[.slice a8_l13 (d8_l13).length c0_7, .int .i64 x6.1.2]] _ rfl rfl rfl rfl hcall ?_
  rintro v w18 ⟨a0_18, c0_18, rfl, he18, hmn18, hfn18, hf18_1⟩
  clear hcall hx
  refine ⟨.inl rfl, ?_⟩
  have hpk2 : MS wl13 ([] ++ [blk a8_l13, [b9], M]) := hms.pick [some 0, some 1, some 2] _ rfl
  have hsb2 : ∀ x ∈ fl ([] ++ [blk a8_l13, [b9], M]), x ∈ fl [blk a8_l13, [b9], M] := pick_sub [some 0, some 1, some 2] _ rfl
  have hst0 := Stp.call (LS := [blk a8_l13, [b9], M]) (res := [blk a0_18]) (par := []) (R := [blk a8_l13, [b9], M]) he18 (fun b hb => hsb2 b (fl_left' (P := []) b hb)) hfn18 (NP.init _ _) (fun x hx => hsb2 x (fl_right' (P := []) x hx))
  have hsn : ∀ x ∈ fl [blk a0_18, blk a8_l13, [b9], M], x ∈ fl ([blk a0_18] ++ ([] ++ [blk a8_l13, [b9], M])) := pick_sub [some 0, some 1, some 2, some 3] _ rfl
  have hst := hst0.res hsn
  replace hb9 := he18.box hb9 ((MS.outs (P := []) hpk2 1 rfl) _ (List.mem_singleton.2 rfl))
  replace hf7_1 := hf7_1.step hst he18 (MS.outs (P := []) hpk2 0 rfl)
  replace hms : MS w18 [blk a0_18, blk a8_l13, [b9], M] := (MS.call (P := []) (R := [blk a8_l13, [b9], M]) (res := [blk a0_18]) (par := []) hpk2 he18 hmn18 hfn18 (NP.init _ _)).pick [some 0, some 1, some 2, some 3] _ rfl
  have hfr2 : FR w.heap.size [blk a0_18, blk a8_l13, [b9]] := (FR.cons (fun b hb => Nat.le_trans hev.size (hfn18.at 0 rfl b hb)) (FR.cons (hfr.at 0 rfl) (FR.cons (hfr.at 1 rfl) (FR.nil _))))
  replace hev := hev.ext he18
  replace hfr := hfr2
  clear hfr2
  replace hf18_1 := OwnS.plain (M' := fl [blk a0_18, blk a8_l13, [b9], M]) (plain_int _) hf18_1
  clear hpk hsb hsb0 hpk2 hsb2 hst0 hsn hst
  have hpk : MS w18 [blk a8_l13, [b9], M] := hms.pick [some 1, some 2, some 3] _ rfl
  have hsu : ∀ x ∈ fl [blk a8_l13, [b9], M], x ∈ fl [blk a0_18, blk a8_l13, [b9], M] := pick_sub [some 1, some 2, some 3] _ rfl
  replace hf7_1 := hf7_1.sub hsu
  replace hf18_1 := hf18_1.ro hsu (pick_out hms 0 rfl [some 1, some 2, some 3] [blk a8_l13, [b9], M] rfl rfl)
  replace hms := hpk
  replace hfr : FR w.heap.size [blk a8_l13, [b9]] := hfr.pick [some 1, some 2] _ rfl
  clear hpk hsu
  refine x_pure 3 [(24, .tuple #[.agg #[.int .i64 x17.1.1, .slice a0_18 (x17.1.2).length c0_18], .int .i64 x17.2]), (27, .agg #[.int .i64 x17.1.1, .slice a0_18 (x17.1.2).length c0_18]), (28, .int .i64 x17.2)] _ _ _ (by kernel_rfl) ?_
  refine x_alloc (z := .agg #[.int .i64 0, .slice none 0 0]) rfl rfl (by kernel_rfl) (fun b20 w20 hq20 hb20 he20 hz20 => ?_)
  replace hb20 : w20.heap[b20]? = some (.cells #[.int .i64 0, .slice none 0 0] 30 (0, 0)) := hb20
  refine ⟨.inl rfl, ?_⟩
  have hst := Stp.box (ls := [blk a8_l13, [b9], M]) he20 hq20
  replace hb9 := he20.box hb9 nn
  replace hf7_1 := hf7_1.step hst he20 nn2
  replace hf18_1 := hf18_1.step hst
  replace hms := hms.box he20 hq20 hb20
  replace hfr := hfr.box hev.size hq20
  replace hev := hev.ext he20
  obtain ⟨w22, hr22, hb22, he22⟩ := store_boxagg 0 [.int .i64 x17.1.1, .slice a0_18 (x17.1.2).length c0_18] #[.int .i64 x17.1.1, .slice a0_18 (x17.1.2).length c0_18] tagg30 hb20 rfl rfl rfl
  refine x_store w22 (xv := .pointer (some ⟨b20, 0, none⟩)) (yv := .agg #[.int .i64 x17.1.1, .slice a0_18 (x17.1.2).length c0_18]) rfl rfl rfl rfl hr22 ?_
  refine ⟨.inl rfl, ?_⟩
  have hst := Stp.ev' (ls := [[b20], blk a8_l13, [b9], M]) he22 (mem_flat 0 rfl)
  replace hb9 := he22.box hb9 (hms.apart 2 0 rfl rfl rfl _ (List.mem_singleton.2 rfl))
  replace hf7_1 := hf7_1.step hst he22 (hms.apart 1 0 rfl rfl rfl)
  replace hf18_1 := hf18_1.step hst
  replace hms := hms.ev he22
  replace hev := hev.then he22 (fun b hb => .inr (hfr.at 0 rfl b hb))
  replace hb20 := hb22
  refine x_pure 1 [(6, .int .i64 x17.2)] _ _ _ (by kernel_rfl) ?_
  refine x_end rfl (k_then ?_)
  refine c_seq ?_
  refine c_seq (c_plain ?_)
  refine x_pure 2 [(29, .int .i64 x17.2), (30, .bool (x17.2 != 0))] _ _ _ (by kernel_rfl) ?_
  refine x_end rfl (k_then ?_)
  refine c_cond (x17.2 != 0) rfl (fun hb => ?_) (fun hb => ?_)
  · replace h := ite_t hb h
    refine c_seq (c_plain ?_)
    refine x_pure 3 [(31, .int .i64 x17.2), (32, .bool (x17.2 == 15)), (33, .bool (x17.2 == 15))] _ _ _ (by kernel_rfl) ?_
    refine x_split 33 (x17.2 == 15) rfl (fun hb => ?_) (fun hb => ?_)
    · replace h := ite_t hb h
      obtain ⟨x24, hx, h⟩ := bind_some h
      have hcall := law14_sane_w _ w22 hx
      refine x_call 15 #[] #[] [] _ rfl rfl rfl rfl hcall ?_
      rintro v w25 ⟨rfl, he25⟩
      clear hcall hx
      refine ⟨.inl rfl, ?_⟩
      have hst := Stp.ext (ls := [[b20], blk a8_l13, [b9], M]) he25
      replace hb9 := he25.box hb9 nn
      replace hf7_1 := hf7_1.step hst he25 nn2
      replace hf18_1 := hf18_1.step hst
      replace hb20 := he25.box hb20 nn
      replace hms := hms.ev he25
      replace hev := hev.ext he25
      refine x_pure 2 [(35, .bool x24), (2, .bool x24)] _ _ _ (by kernel_rfl) ?_
      refine x_end rfl (k_then ?_)
      refine c_norm [(2, .bool x24)] ⟨rfl, trivial⟩ (fun J => ?_)
      refine c_ret ?_
      refine k_then_ret ?_
      refine r_ret (r_vals [.bool x24] ⟨rfl, trivial⟩ ?_)
      have hx := some_inj h
      subst hx
      have hmr : MS w25 [M] := hms.pick [some 3] _ rfl
      have hsu : ∀ x ∈ fl [M], x ∈ fl [[b20], blk a8_l13, [b9], M] := pick_sub [some 3] _ rfl
      exact ⟨rfl, hev⟩
    replace h := ite_f hb h
    refine x_pure 3 [(34, undef), (35, .bool false), (2, .bool false)] _ _ _ (by kernel_rfl) ?_
    refine x_end rfl (k_then ?_)
    refine c_norm [(2, .bool false)] ⟨rfl, trivial⟩ (fun J => ?_)
    refine c_ret ?_
    refine k_then_ret ?_
    refine r_ret (r_vals [.bool false] ⟨rfl, trivial⟩ ?_)
    have hx := some_inj h
    subst hx
    have hmr : MS w22 [M] := hms.pick [some 3] _ rfl
    have hsu : ∀ x ∈ fl [M], x ∈ fl [[b20], blk a8_l13, [b9], M] := pick_sub [some 3] _ rfl
    exact ⟨rfl, hev⟩
  replace h := ite_f hb h
  refine c_skip ?_
  refine k_then ?_
  refine c_seq (c_plain ?_)
  refine x_load (xv := .pointer (some ⟨b9, 0, none⟩)) (.agg #[.slice a8_l13 (d8_l13).length c0_7, .int .i64 x6.1.2]) rfl rfl rfl (reads_boxagg 0 [.slice a8_l13 (d8_l13).length c0_7, .int .i64 x6.1.2] tagg27 hb9 nn rfl) ?_
  refine x_load (xv := .pointer (some ⟨b20, 0, none⟩)) (.agg #[.int .i64 x17.1.1, .slice a0_18 (x17.1.2).length c0_18]) rfl rfl rfl (reads_boxagg 0 [.int .i64 x17.1.1, .slice a0_18 (x17.1.2).length c0_18] tagg30 hb20 nn rfl) ?_
  obtain ⟨x26, hx, h⟩ := bind_some h
  have hpk : MS w22 ([] ++ [[b20], [b9], M]) := hms.pick [some 0, some 2, some 3] _ rfl
  have hsb0 : ∀ x ∈ fl ([] ++ [[b20], [b9], M]), x ∈ fl [[b20], blk a8_l13, [b9], M] := pick_sub [some 0, some 2, some 3] _ rfl
  have hsb : ∀ x ∈ fl ([] ++ [(fl [[b20], [b9], M])]), x ∈ fl [[b20], blk a8_l13, [b9], M] := fun x hx => hsb0 x (fl_unfold x hx)
  have hcall := rollin_Pushes_w a8_l13 c0_7 d8_l13 x6.1.2 x17.1.1 a0_18 c0_18 x17.1.2 _ w22 (fl [[b20], [b9], M]) (MS.fold (P := []) hpk) (hf7_1.ro hsb (fun b hb hb2 => pick_out hms 1 rfl [some 0, some 2, some 3] ([] ++ [[b20], [b9], M]) rfl rfl b hb (fl_unfold b hb2))) (hf18_1.sub hsb) hx
  refine x_call 21 #[] #[] [.agg #[.slice a8_l13 (d8_l13).length c0_7, .int .i64 x6.1.2], .agg #[.int .i64 x17.1.1, .slice a0_18 (x17.1.2).length c0_18]] _ rfl rfl rfl rfl hcall ?_
  rintro v w27 ⟨rfl, he27⟩
  clear hcall hx
  refine ⟨.inl rfl, ?_⟩
  have hst := Stp.ext (ls := [[b20], blk a8_l13, [b9], M]) he27
  replace hb9 := he27.box hb9 nn
  replace hf7_1 := hf7_1.step hst he27 nn2
  replace hf18_1 := hf18_1.step hst
  replace hb20 := he27.box hb20 nn
  replace hms := hms.ev he27
  replace hev := hev.ext he27
  clear hpk hsb hsb0
  refine x_pure 5 [(36, .tuple #[.int .i64 x26.1, .int .i64 x26.2]), (40, .int .i64 x26.1), (41, .int .i64 x26.2), (7, .int .i64 x26.1), (8, .int .i64 x26.2)] _ _ _ (by kernel_rfl) ?_
  refine x_end rfl (k_then ?_)
  refine c_norm [(3, .pointer (some ⟨b9, 0, none⟩)), (5, .pointer (some ⟨b20, 0, none⟩)), (7, .int .i64 x26.1), (8, .int .i64 x26.2)] ⟨rfl, rfl, rfl, rfl, trivial⟩ (fun J => ?_)
  refine c_seq (c_plain ?_)
  refine x_pure 3 [(42, .int .i64 x26.2), (43, .bool (x26.2 == 0)), (44, .bool (x26.2 == 0))] _ _ _ (by kernel_rfl) ?_
  refine x_split 44 (x26.2 == 0) rfl (fun hb => ?_) (fun hb => ?_)
  · replace h := ite_t hb h
    refine x_fieldAddr (xv := .pointer (some ⟨b9, 0, none⟩)) (.pointer (some ⟨b9, 0, none⟩)) rfl rfl rfl (reads_field tfld27_0 _ _) ?_
    refine x_load (xv := .pointer (some ⟨b9, 0, none⟩)) (.slice a8_l13 (d8_l13).length c0_7) rfl rfl rfl (reads_box tcell25 hb9 nn 0 _ rfl) ?_
    refine x_len (vs := [.slice a8_l13 (d8_l13).length c0_7]) (.int .i64 ((d8_l13).length : Int)) rfl rfl rfl (reads_len tsl25 _ _ _ _ _) ?_
    refine x_pure 2 [(48, .bool (((d8_l13).length : Int) == 0)), (49, .bool (((d8_l13).length : Int) == 0))] _ _ _ (by kernel_rfl) ?_
    refine x_split 49 (((d8_l13).length : Int) == 0) rfl (fun hb => ?_) (fun hb => ?_)
    · replace h := ite_t hb h
      refine x_pure 4 [(50, .int .i64 x26.1), (51, .bool (x26.1 == 0)), (52, .bool (x26.1 == 0)), (53, .bool (x26.1 == 0))] _ _ _ (by kernel_rfl) ?_
      refine x_split 53 (x26.1 == 0) rfl (fun hb => ?_) (fun hb => ?_)
      · replace h := ite_t hb h
        refine x_pure 14 [(54, undef), (55, undef), (56, undef), (57, undef), (58, undef), (59, undef), (60, undef), (61, undef), (62, undef), (63, undef), (64, undef), (65, .bool true), (66, .bool true), (67, .bool true)] _ _ _ (by kernel_rfl) ?_
        obtain ⟨x28, hx, h⟩ := bind_some h
        have hcall := law14_sane_w _ w27 hx
        refine x_call 15 #[] #[] [] _ rfl rfl rfl rfl hcall ?_
        rintro v w29 ⟨rfl, he29⟩
        clear hcall hx
        refine ⟨.inl rfl, ?_⟩
        have hst := Stp.ext (ls := [[b20], blk a8_l13, [b9], M]) he29
        replace hb9 := he29.box hb9 nn
        replace hf7_1 := hf7_1.step hst he29 nn2
        replace hf18_1 := hf18_1.step hst
        replace hb20 := he29.box hb20 nn
        replace hms := hms.ev he29
        replace hev := hev.ext he29
        refine x_pure 2 [(69, .bool x28), (2, .bool x28)] _ _ _ (by kernel_rfl) ?_
        refine x_end rfl (k_then ?_)
        refine c_norm [(2, .bool x28)] ⟨rfl, trivial⟩ (fun J => ?_)
        refine c_ret ?_
        refine r_ret (r_vals [.bool x28] ⟨rfl, trivial⟩ ?_)
        have hx := some_inj h
        subst hx
        have hmr : MS w29 [M] := hms.pick [some 3] _ rfl
        have hsu : ∀ x ∈ fl [M], x ∈ fl [[b20], blk a8_l13, [b9], M] := pick_sub [some 3] _ rfl
        exact ⟨rfl, hev⟩
      replace h := ite_f hb h
      refine x_fieldAddr (xv := .pointer (some ⟨b9, 0, none⟩)) (.pointer (some ⟨b9, 0, none⟩)) rfl rfl rfl (reads_field tfld27_0 _ _) ?_
      refine x_load (xv := .pointer (some ⟨b9, 0, none⟩)) (.slice a8_l13 (d8_l13).length c0_7) rfl rfl rfl (reads_box tcell25 hb9 nn 0 _ rfl) ?_
      refine x_len (vs := [.slice a8_l13 (d8_l13).length c0_7]) (.int .i64 ((d8_l13).length : Int)) rfl rfl rfl (reads_len tsl25 _ _ _ _ _) ?_
      refine x_pure 2 [(57, .bool (decide (((d8_l13).length : Int) > 0))), (58, .bool (decide (((d8_l13).length : Int) > 0)))] _ _ _ (by kernel_rfl) ?_
      refine x_split 58 (decide (((d8_l13).length : Int) > 0)) rfl (fun hb => ?_) (fun hb => ?_)
      · replace h := ite_t hb h
        refine x_pure 1 [(59, .int .i64 x26.1)] _ _ _ (by kernel_rfl) ?_
        refine x_fieldAddr (xv := .pointer (some ⟨b20, 0, none⟩)) (.pointer (some ⟨b20, 0, none⟩)) rfl rfl rfl (reads_field tfld30_0 _ _) ?_
        refine x_load (xv := .pointer (some ⟨b20, 0, none⟩)) (.int .i64 x17.1.1) rfl rfl rfl (reads_box tcell3 hb20 nn 0 _ rfl) ?_
        refine x_pure 6 [(62, .int .i64 (IntKind.i64.wrap (x17.1.1 + 1))), (63, .bool (x26.1 == (IntKind.i64.wrap (x17.1.1 + 1)))), (64, .bool (x26.1 == (IntKind.i64.wrap (x17.1.1 + 1)))), (65, .bool (x26.1 == (IntKind.i64.wrap (x17.1.1 + 1)))), (66, .bool (x26.1 == (IntKind.i64.wrap (x17.1.1 + 1)))), (67, .bool (x26.1 == (IntKind.i64.wrap (x17.1.1 + 1))))] _ _ _ (by kernel_rfl) ?_
        refine x_split 67 (x26.1 == (IntKind.i64.wrap (x17.1.1 + 1))) rfl (fun hb => ?_) (fun hb => ?_)
        · replace h := ite_t hb h
          obtain ⟨x30, hx, h⟩ := bind_some h
          have hcall := law14_sane_w _ w27 hx
          refine x_call 15 #[] #[] [] _ rfl rfl rfl rfl hcall ?_
          rintro v w31 ⟨rfl, he31⟩
          clear hcall hx
          refine ⟨.inl rfl, ?_⟩
          have hst := Stp.ext (ls := [[b20], blk a8_l13, [b9], M]) he31
          replace hb9 := he31.box hb9 nn
          replace hf7_1 := hf7_1.step hst he31 nn2
          replace hf18_1 := hf18_1.step hst
          replace hb20 := he31.box hb20 nn
          replace hms := hms.ev he31
          replace hev := hev.ext he31
          refine x_pure 2 [(69, .bool x30), (2, .bool x30)] _ _ _ (by kernel_rfl) ?_
          refine x_end rfl (k_then ?_)
          refine c_norm [(2, .bool x30)] ⟨rfl, trivial⟩ (fun J => ?_)
          refine c_ret ?_
          refine r_ret (r_vals [.bool x30] ⟨rfl, trivial⟩ ?_)
          have hx := some_inj h
          subst hx
          have hmr : MS w31 [M] := hms.pick [some 3] _ rfl
          have hsu : ∀ x ∈ fl [M], x ∈ fl [[b20], blk a8_l13, [b9], M] := pick_sub [some 3] _ rfl
          exact ⟨rfl, hev⟩
        replace h := ite_f hb h
        refine x_pure 3 [(68, undef), (69, .bool false), (2, .bool false)] _ _ _ (by kernel_rfl) ?_
        refine x_end rfl (k_then ?_)
        refine c_norm [(2, .bool false)] ⟨rfl, trivial⟩ (fun J => ?_)
        refine c_ret ?_
        refine r_ret (r_vals [.bool false] ⟨rfl, trivial⟩ ?_)
        have hx := some_inj h
        subst hx
        have hmr : MS w27 [M] := hms.pick [some 3] _ rfl
        have hsu : ∀ x ∈ fl [M], x ∈ fl [[b20], blk a8_l13, [b9], M] := pick_sub [some 3] _ rfl
        exact ⟨rfl, hev⟩
      replace h := ite_f hb h
      refine x_pure 12 [(59, undef), (60, undef), (61, undef), (62, undef), (63, undef), (64, .bool false), (65, .bool false), (66, .bool false), (67, .bool false), (68, undef), (69, .bool false), (2, .bool false)] _ _ _ (by kernel_rfl) ?_
      refine x_end rfl (k_then ?_)
      refine c_norm [(2, .bool false)] ⟨rfl, trivial⟩ (fun J => ?_)
      refine c_ret ?_
      refine r_ret (r_vals [.bool false] ⟨rfl, trivial⟩ ?_)
      have hx := some_inj h
      subst hx
      have hmr : MS w27 [M] := hms.pick [some 3] _ rfl
      have hsu : ∀ x ∈ fl [M], x ∈ fl [[b20], blk a8_l13, [b9], M] := pick_sub [some 3] _ rfl
      exact ⟨rfl, hev⟩
    replace h := ite_f hb h
    refine x_pure 4 [(50, undef), (51, undef), (52, .bool false), (53, .bool false)] _ _ _ (by kernel_rfl) ?_
    refine x_fieldAddr (xv := .pointer (some ⟨b9, 0, none⟩)) (.pointer (some ⟨b9, 0, none⟩)) rfl rfl rfl (reads_field tfld27_0 _ _) ?_
    refine x_load (xv := .pointer (some ⟨b9, 0, none⟩)) (.slice a8_l13 (d8_l13).length c0_7) rfl rfl rfl (reads_box tcell25 hb9 nn 0 _ rfl) ?_
    refine x_len (vs := [.slice a8_l13 (d8_l13).length c0_7]) (.int .i64 ((d8_l13).length : Int)) rfl rfl rfl (reads_len tsl25 _ _ _ _ _) ?_
    refine x_pure 2 [(57, .bool (decide (((d8_l13).length : Int) > 0))), (58, .bool (decide (((d8_l13).length : Int) > 0)))] _ _ _ (by kernel_rfl) ?_
    refine x_split 58 (decide (((d8_l13).length : Int) > 0)) rfl (fun hb => ?_) (fun hb => ?_)
    · replace h := ite_t hb h
      refine x_pure 1 [(59, .int .i64 x26.1)] _ _ _ (by kernel_rfl) ?_
      refine x_fieldAddr (xv := .pointer (some ⟨b20, 0, none⟩)) (.pointer (some ⟨b20, 0, none⟩)) rfl rfl rfl (reads_field tfld30_0 _ _) ?_
      refine x_load (xv := .pointer (some ⟨b20, 0, none⟩)) (.int .i64 x17.1.1) rfl rfl rfl (reads_box tcell3 hb20 nn 0 _ rfl) ?_
      refine x_pure 6 [(62, .int .i64 (IntKind.i64.wrap (x17.1.1 + 1))), (63, .bool (x26.1 == (IntKind.i64.wrap (x17.1.1 + 1)))), (64, .bool (x26.1 == (IntKind.i64.wrap (x17.1.1 + 1)))), (65, .bool (x26.1 == (IntKind.i64.wrap (x17.1.1 + 1)))), (66, .bool (x26.1 == (IntKind.i64.wrap (x17.1.1 + 1)))), (67, .bool (x26.1 == (IntKind.i64.wrap (x17.1.1 + 1))))] _ _ _ (by kernel_rfl) ?_
      refine x_split 67 (x26.1 == (IntKind.i64.wrap (x17.1.1 + 1))) rfl (fun hb => ?_) (fun hb => ?_)
      · replace h := ite_t hb h
        obtain ⟨x32, hx, h⟩ := bind_some h
        have hcall := law14_sane_w _ w27 hx
        refine x_call 15 #[] #[] [] _ rfl rfl rfl rfl hcall ?_
        rintro v w33 ⟨rfl, he33⟩
        clear hcall hx
        refine ⟨.inl rfl, ?_⟩
        have hst := Stp.ext (ls := [[b20], blk a8_l13, [b9], M]) he33
        replace hb9 := he33.box hb9 nn
        replace hf7_1 := hf7_1.step hst he33 nn2
        replace hf18_1 := hf18_1.step hst
        replace hb20 := he33.box hb20 nn
        replace hms := hms.ev he33
        replace hev := hev.ext he33
        refine x_pure 2 [(69, .bool x32), (2, .bool x32)] _ _ _ (by kernel_rfl) ?_
        refine x_end rfl (k_then ?_)
        refine c_norm [(2, .bool x32)] ⟨rfl, trivial⟩ (fun J => ?_)
        refine c_ret ?_
        refine r_ret (r_vals [.bool x32] ⟨rfl, trivial⟩ ?_)
        have hx := some_inj h
        subst hx
        have hmr : MS w33 [M] := hms.pick [some 3] _ rfl
        have hsu : ∀ x ∈ fl [M], x ∈ fl [[b20], blk a8_l13, [b9], M] := pick_sub [some 3] _ rfl
        exact ⟨rfl, hev⟩
      replace h := ite_f hb h
      refine x_pure 3 [(68, undef), (69, .bool false), (2, .bool false)] _ _ _ (by kernel_rfl) ?_
      refine x_end rfl (k_then ?_)
      refine c_norm [(2, .bool false)] ⟨rfl, trivial⟩ (fun J => ?_)
      refine c_ret ?_
      refine r_ret (r_vals [.bool false] ⟨rfl, trivial⟩ ?_)
      have hx := some_inj h
      subst hx
      have hmr : MS w27 [M] := hms.pick [some 3] _ rfl
      have hsu : ∀ x ∈ fl [M], x ∈ fl [[b20], blk a8_l13, [b9], M] := pick_sub [some 3] _ rfl
      exact ⟨rfl, hev⟩
    replace h := ite_f hb h
    refine x_pure 12 [(59, undef), (60, undef), (61, undef), (62, undef), (63, undef), (64, .bool false), (65, .bool false), (66, .bool false), (67, .bool false), (68, undef), (69, .bool false), (2, .bool false)] _ _ _ (by kernel_rfl) ?_
    refine x_end rfl (k_then ?_)
    refine c_norm [(2, .bool false)] ⟨rfl, trivial⟩ (fun J => ?_)
    refine c_ret ?_
    refine r_ret (r_vals [.bool false] ⟨rfl, trivial⟩ ?_)
    have hx := some_inj h
    subst hx
    have hmr : MS w27 [M] := hms.pick [some 3] _ rfl
    have hsu : ∀ x ∈ fl [M], x ∈ fl [[b20], blk a8_l13, [b9], M] := pick_sub [some 3] _ rfl
    exact ⟨rfl, hev⟩
  replace h := ite_f hb h
  refine x_pure 26 [(45, undef), (46, undef), (47, undef), (48, undef), (49, undef), (50, undef), (51, undef), (52, undef), (53, undef), (54, undef), (55, undef), (56, undef), (57, undef), (58, undef), (59, undef), (60, undef), (61, undef), (62, undef), (63, undef), (64, undef), (65, undef), (66, .bool false), (67, .bool false), (68, undef), (69, .bool false), (2, .bool false)] _ _ _ (by kernel_rfl) ?_
  refine x_end rfl (k_then ?_)
  refine c_norm [(2, .bool false)] ⟨rfl, trivial⟩ (fun J => ?_)
  refine c_ret ?_
  refine r_ret (r_vals [.bool false] ⟨rfl, trivial⟩ ?_)
  have hx := some_inj h
  subst hx
  have hmr : MS w27 [M] := hms.pick [some 3] _ rfl
  have hsu : ∀ x ∈ fl [M], x ∈ fl [[b20], blk a8_l13, [b9], M] := pick_sub [some 3] _ rfl
  exact ⟨rfl, hev⟩
end Go.Proofs.Ytmjobkpgnhbcbaa
