/- Walks, printed by program: each function returns what the partial function of the same name returns. Conditions: those of each theorem. -/
import Derived.Test.YtacimonplnlmgaaGT
import Derived.Test.YtacimonplnlmgaaGgen
import Derived.Test.YtacimonplnlmgaaGjob
import Derived.Test.YtacimonplnlmgaaGlaw11sane
set_option linter.unusedVariables false
set_option linter.unusedSimpArgs false
set_option maxRecDepth 4000
namespace Go.Proofs.Ytacimonplnlmgaa
open Go Go.V Go.Proofs
def law11_JobFlat_L30 (x6 : ((List (Int × Int × Int × Int)) × Int) × Int) (d8_j12 : List (Int × Int × Int × Int)) (x20 : (List Int) × Int) (t52__s52_l25 : Int) (s : Bool × Int) : Option (Step (Bool × Int) Bool) :=
match s with
| (strict_s9_l30, t65__s65_l30) =>
(if (decide (t65__s65_l30 < ((x20.1).length : Int))) = true then
((job_Relation d8_j12 x6.1.2 t65__s65_l30 t52__s52_l25).bind fun x32 =>
(if strict_s9_l30 = true then
some (.next (true, IntKind.i64.wrap (t65__s65_l30 + 1)))
else
some (.next (x32.1 == 2, IntKind.i64.wrap (t65__s65_l30 + 1)))))
else
some (.done strict_s9_l30))

def law11_JobFlat_J27 (x6 : ((List (Int × Int × Int × Int)) × Int) × Int) (d8_j12 : List (Int × Int × Int × Int)) (x20 : (List Int) × Int) (strict_s9_l25 : Bool) (t52__s52_l25 : Int) (flat_s8_j27 : Bool) : Option (Step (Bool × Bool × Int) (Bool × Bool)) :=
((loop (law11_JobFlat_L30 x6 d8_j12 x20 t52__s52_l25) (strict_s9_l25, 0)).bind fun d => match d with
| strict_s9_x30 => some (.next (flat_s8_j27, strict_s9_x30, IntKind.i64.wrap (t52__s52_l25 + 1))))

def law11_JobFlat_L25 (x6 : ((List (Int × Int × Int × Int)) × Int) × Int) (d8_j12 : List (Int × Int × Int × Int)) (x20 : (List Int) × Int) (s : Bool × Bool × Int) : Option (Step (Bool × Bool × Int) (Bool × Bool)) :=
match s with
| (flat_s8_l25, strict_s9_l25, t52__s52_l25) =>
(if (decide (t52__s52_l25 < ((x20.1).length : Int))) = true then
(if flat_s8_l25 = true then
((idx x20.1 t52__s52_l25).bind fun x28 =>
law11_JobFlat_J27 x6 d8_j12 x20 strict_s9_l25 t52__s52_l25 (x28 == 0))
else
law11_JobFlat_J27 x6 d8_j12 x20 strict_s9_l25 t52__s52_l25 false)
else
some (.done (flat_s8_l25, strict_s9_l25)))

def law11_JobFlat_J12 (x6 : ((List (Int × Int × Int × Int)) × Int) × Int) (d8_j12 : List (Int × Int × Int × Int)) : Option Bool :=
((job_Levels d8_j12 x6.1.2).bind fun x20 =>
(if (x20.2 != 0) = true then
some false
else
(if (((x20.1).length : Int) != ((d8_j12).length : Int)) = true then
some false
else
((loop (law11_JobFlat_L25 x6 d8_j12 x20) (true, false, 0)).bind fun d => match d with
| (flat_s8_x25, strict_s9_x25) => (if (flat_s8_x25 != strict_s9_x25) = true then
((law11_sane).bind fun x34 =>
some x34)
else
some false)))))

def law11_JobFlat_L15 (x6 : ((List (Int × Int × Int × Int)) × Int) × Int) (s : (List (Int × Int × Int × Int)) × Int) : Option (Step ((List (Int × Int × Int × Int)) × Int) (List (Int × Int × Int × Int))) :=
match s with
| (d8_l15, t24__s24_l15) =>
(if (decide (t24__s24_l15 < ((x6.1.1).length : Int))) = true then
((idx d8_l15 t24__s24_l15).bind fun x17 =>
some (.next ((d8_l15.set (Int.toNat t24__s24_l15) (x17.1, IntKind.i64.wrap (Int.tdiv t24__s24_l15 2), x17.2.2.1, x17.2.2.2)), IntKind.i64.wrap (t24__s24_l15 + 1))))
else
some (.done d8_l15))

def law11_JobFlat (p0 : List Int) : Option Bool :=
((gen_New p0).bind fun x2 =>
((gen_Maker_Job x2.1 x2.2 10).bind fun x6 =>
((gen_Maker_Next x2.1 x6.2 2).bind fun x13 =>
(if (x13.1 == 0) = true then
((loop (law11_JobFlat_L15 x6) (x6.1.1, 0)).bind fun d => match d with
| d8_x15 => law11_JobFlat_J12 x6 d8_x15)
else
law11_JobFlat_J12 x6 x6.1.1))))

theorem law11_JobFlat_w (a_p0 : Option Addr) (c_p0 : Nat) (p0 : List Int) (r : Bool) (w : World) (M : List Nat) (hms : MS w [M]) (hs_p0 : SlR (eInt .i64) w (fl [M]) a_p0 c_p0 p0) (h : law11_JobFlat p0 = some r) : CallVC Try.prog 9 [.slice a_p0 (p0).length c_p0] w fun v w' => v = .bool r ∧ Ev [] w w' := by
  refine calls_vc hmx Try.func9 (by kernel_rfl) rfl (rs := [.tmp 2]) rfl (by kernel_rfl) (args := [.slice a_p0 (p0).length c_p0]) rfl ?_
  have hev : Ev [] w w := Ev.refl _ _
  have hfr : FR w.heap.size [] := FR.nil _
  refine c_seq (c_plain ?_)
  refine x_pure 1 [(2, .bool false)] _ _ _ (by kernel_rfl) ?_
  refine x_end rfl (k_then ?_)
  refine c_seq (c_plain ?_)
  refine x_pure 1 [(14, .slice a_p0 (p0).length c_p0)] _ _ _ (by kernel_rfl) ?_
  obtain ⟨x2, hx, h⟩ := bind_some h
  have hpk : MS w ([] ++ [M]) := hms.pick [some 0] _ rfl
  have hsb0 : ∀ x ∈ fl ([] ++ [M]), x ∈ fl [M] := pick_sub [some 0] _ rfl
  have hsb : ∀ x ∈ fl ([] ++ [(fl [M])]), x ∈ fl [M] := fun x hx => hsb0 x (fl_unfold x hx)
  have hcall := gen_New_w a_p0 c_p0 p0 _ w (fl [M]) (MS.fold (P := []) hpk) (hs_p0.sub hsb) hx
  refine x_call 13 #[] #[] [.slice a_p0 (p0).length c_p0] _ rfl rfl rfl rfl hcall ?_
  rintro v w3 ⟨b0_3, a1_3, c1_3, rfl, he3, hmn3, hfn3, hf3_1, hf3_2⟩
  clear hcall hx
  refine ⟨.inl rfl, ?_⟩
  have hpk2 : MS w ([] ++ [M]) := hms.pick [some 0] _ rfl
  have hsb2 : ∀ x ∈ fl ([] ++ [M]), x ∈ fl [M] := pick_sub [some 0] _ rfl
  have hst0 := Stp.call (LS := [M]) (res := [[b0_3]]) (par := []) (R := [M]) he3 (fun b hb => hsb2 b (fl_left' (P := []) b hb)) hfn3 (NP.init _ _) (fun x hx => hsb2 x (fl_right' (P := []) x hx))
  have hsn : ∀ x ∈ fl [[b0_3], M], x ∈ fl ([[b0_3]] ++ ([] ++ [M])) := pick_sub [some 0, some 1] _ rfl
  have hst := hst0.res hsn
  replace hs_p0 := hs_p0.step hst
  replace hms : MS w3 [[b0_3], M] := (MS.call (P := []) (R := [M]) (res := [[b0_3]]) (par := []) hpk2 he3 hmn3 hfn3 (NP.init _ _)).pick [some 0, some 1] _ rfl
  have hfr2 : FR w.heap.size [[b0_3]] := (FR.cons (fun b hb => Nat.le_trans hev.size (hfn3.at 0 rfl b hb)) (FR.nil _))
  replace hev := hev.ext he3
  replace hfr := hfr2
  clear hfr2
  have hsp : ∀ x ∈ fl [[b0_3], M], x ∈ fl ([[b0_3]] ++ ([] ++ [(fl [M])])) := fun x hx => fl_tot (res := [[b0_3]]) (par := []) (R := [M]) x (hsn x hx)
  replace hf3_2 := hf3_2.sub hsp
  clear hpk hsb hsb0 hpk2 hsb2 hst0 hsn hst
  refine x_pure 1 [(3, .pointer (some ⟨b0_3, 0, none⟩))] _ _ _ (by kernel_rfl) ?_
  refine x_end rfl (k_then ?_)
  refine c_seq (c_plain ?_)
  refine x_pure 1 [(16, .pointer (some ⟨b0_3, 0, none⟩))] _ _ _ (by kernel_rfl) ?_
  obtain ⟨x6, hx, h⟩ := bind_some h
  have hpk : MS w3 ([[b0_3]] ++ [M]) := hms.pick [some 0, some 1] _ rfl
  have hsb0 : ∀ x ∈ fl ([[b0_3]] ++ [M]), x ∈ fl [[b0_3], M] := pick_sub [some 0, some 1] _ rfl
  have hsb : ∀ x ∈ fl ([[b0_3]] ++ [(fl [M])]), x ∈ fl [[b0_3], M] := fun x hx => hsb0 x (fl_unfold x hx)
  have hcall := gen_Maker_Job_w b0_3 a1_3 c1_3 x2.1 x2.2 10 _ w3 (fl [M]) (hpk.fold (P := [[b0_3]])) (hf3_2.sub hsb) hf3_1 hx
  refine x_call 14 #[] #[] [.pointer (some ⟨b0_3, 0, none⟩), .int .i64 10] _ rfl rfl rfl rfl hcall ?_
  rintro v w7 ⟨a0_7, c0_7, rfl, he7, hp7_0, hmn7, hfn7, hf7_1⟩
  clear hcall hx
  refine ⟨.inl rfl, ?_⟩
  have hpk2 : MS w3 ([[b0_3]] ++ [M]) := hms.pick [some 0, some 1] _ rfl
  have hsb2 : ∀ x ∈ fl ([[b0_3]] ++ [M]), x ∈ fl [[b0_3], M] := pick_sub [some 0, some 1] _ rfl
  have hst0 := Stp.call (LS := [[b0_3], M]) (res := [blk a0_7]) (par := [[b0_3]]) (R := [M]) he7 (fun b hb => hsb2 b (fl_left' (P := [[b0_3]]) b hb)) hfn7 (NP.init _ _) (fun x hx => hsb2 x (fl_right' (P := [[b0_3]]) x hx))
  have hsn : ∀ x ∈ fl [blk a0_7, [b0_3], M], x ∈ fl ([blk a0_7] ++ ([[b0_3]] ++ [M])) := pick_sub [some 0, some 1, some 2] _ rfl
  have hst := hst0.res hsn
  replace hf3_2 := hf3_2.step hst
  replace hms : MS w7 [blk a0_7, [b0_3], M] := (MS.call (P := [[b0_3]]) (R := [M]) (res := [blk a0_7]) (par := [[b0_3]]) hpk2 he7 hmn7 hfn7 (NP.init _ _)).pick [some 0, some 1, some 2] _ rfl
  have hPf : ∀ b ∈ fl [[b0_3]], w.heap.size ≤ b := FR.mem (ls := [[b0_3]]) (hfr.pick [some 0] _ rfl)
  have hfr2 : FR w.heap.size [blk a0_7, [b0_3]] := (FR.cons (fun b hb => Nat.le_trans hev.size (hfn7.at 0 rfl b hb)) (FR.cons (hfr.at 0 rfl) (FR.nil _)))
  replace hev := hev.then he7 (fun b hb => .inr (hPf b hb))
  replace hfr := hfr2
  clear hfr2
  replace hf3_1 := hp7_0
  replace hf7_1 := OwnS.plain (M' := fl [blk a0_7, [b0_3], M]) (plain_prod (plain_int _) (plain_prod (plain_int _) (plain_prod (plain_int _) (plain_int _)))) hf7_1
  clear hpk hsb hsb0 hpk2 hsb2 hst0 hsn hst
  refine x_alloc (z := .agg #[.slice none 0 0, .int .i64 0]) rfl rfl (by kernel_rfl) (fun b9 w9 hq9 hb9 he9 hz9 => ?_)
  replace hb9 : w9.heap[b9]? = some (.cells #[.slice none 0 0, .int .i64 0] 24 (0, 0)) := hb9
  refine ⟨.inl rfl, ?_⟩
  have hst := Stp.box (ls := [blk a0_7, [b0_3], M]) he9 hq9
  replace hf3_1 := he9.box hf3_1 nn
  replace hf3_2 := hf3_2.step hst
  replace hf7_1 := hf7_1.step hst he9 nn2
  replace hms := hms.box he9 hq9 hb9
  replace hfr := hfr.box hev.size hq9
  replace hev := hev.ext he9
  obtain ⟨w11, hr11, hb11, he11⟩ := store_boxagg 0 [.slice a0_7 (x6.1.1).length c0_7, .int .i64 x6.1.2] #[.slice a0_7 (x6.1.1).length c0_7, .int .i64 x6.1.2] tagg24 hb9 rfl rfl rfl
  refine x_store w11 (xv := .pointer (some ⟨b9, 0, none⟩)) (yv := .agg #[.slice a0_7 (x6.1.1).length c0_7, .int .i64 x6.1.2]) rfl rfl rfl rfl hr11 ?_
  refine ⟨.inl rfl, ?_⟩
  have hst := Stp.ev' (ls := [[b9], blk a0_7, [b0_3], M]) he11 (mem_flat 0 rfl)
  replace hf3_1 := he11.box hf3_1 (hms.apart 2 0 rfl rfl rfl _ (List.mem_singleton.2 rfl))
  replace hf3_2 := hf3_2.step hst
  replace hf7_1 := hf7_1.step hst he11 (hms.apart 1 0 rfl rfl rfl)
  replace hms := hms.ev he11
  replace hev := hev.then he11 (fun b hb => .inr (hfr.at 0 rfl b hb))
  replace hb9 := hb11
  refine x_end rfl (k_then ?_)
  refine c_join (σ := (List (Int × Int × Int × Int)) × Option Addr) (fun s => match s with | (d8_j12, a8_j12) => [(4, .pointer (some ⟨b9, 0, none⟩))]) (fun s w' => match s with | (d8_j12, a8_j12) => law11_JobFlat_J12 x6 d8_j12 = some r ∧ Ev [] w w' ∧ MS w' [blk a8_j12, [b9], M] ∧ FR w.heap.size [blk a8_j12, [b9]] ∧ OwnS (eProd (eInt .i64) (eProd (eInt .i64) (eProd (eInt .i64) (eInt .i64)))) 26 w' (fl [blk a8_j12, [b9], M]) a8_j12 c0_7 d8_j12 ∧ w'.heap[b9]? = some (.cells #[.slice a8_j12 (d8_j12).length c0_7, .int .i64 x6.1.2] 24 (0, 0))) ?_ ?_
  · refine c_seq (c_plain ?_)
    refine x_pure 1 [(18, .pointer (some ⟨b0_3, 0, none⟩))] _ _ _ (by kernel_rfl) ?_
    obtain ⟨x13, hx, h⟩ := bind_some h
    have hpk : MS w11 ([[b0_3]] ++ [[b9], blk a0_7, M]) := hms.pick [some 2, some 0, some 1, some 3] _ rfl
    have hsb0 : ∀ x ∈ fl ([[b0_3]] ++ [[b9], blk a0_7, M]), x ∈ fl [[b9], blk a0_7, [b0_3], M] := pick_sub [some 2, some 0, some 1, some 3] _ rfl
    have hsb : ∀ x ∈ fl ([[b0_3]] ++ [(fl [[b9], blk a0_7, M])]), x ∈ fl [[b9], blk a0_7, [b0_3], M] := fun x hx => hsb0 x (fl_unfold x hx)
    have hcall := gen_Maker_Next_w b0_3 a1_3 c1_3 x2.1 x6.2 2 _ w11 (fl [[b9], blk a0_7, M]) (hpk.fold (P := [[b0_3]])) (hf3_2.sub hsb) hf3_1 hx
    refine x_call 24 #[] #[] [.pointer (some ⟨b0_3, 0, none⟩), .int .i64 2] _ rfl rfl rfl rfl hcall ?_
    rintro v w14 ⟨rfl, he14, hp14_0⟩
    clear hcall hx
    refine ⟨.inl rfl, ?_⟩
    have hpk2 : MS w11 ([[b0_3]] ++ [[b9], blk a0_7, M]) := hms.pick [some 2, some 0, some 1, some 3] _ rfl
    have hsb2 : ∀ x ∈ fl ([[b0_3]] ++ [[b9], blk a0_7, M]), x ∈ fl [[b9], blk a0_7, [b0_3], M] := pick_sub [some 2, some 0, some 1, some 3] _ rfl
    have hst0 := Stp.call (LS := [[b9], blk a0_7, [b0_3], M]) (res := []) (par := [[b0_3]]) (R := [[b9], blk a0_7, M]) he14 (fun b hb => hsb2 b (fl_left' (P := [[b0_3]]) b hb)) (FR.nil _) (NP.init _ _) (fun x hx => hsb2 x (fl_right' (P := [[b0_3]]) x hx))
    have hsn : ∀ x ∈ fl [[b9], blk a0_7, [b0_3], M], x ∈ fl ([] ++ ([[b0_3]] ++ [[b9], blk a0_7, M])) := pick_sub [some 1, some 2, some 0, some 3] _ rfl
    have hst := hst0.res hsn
    replace hf3_2 := hf3_2.step hst
    replace hf7_1 := hf7_1.step hst he14 (MS.outs (P := [[b0_3]]) hpk2 1 rfl)
    replace hb9 := he14.box hb9 ((MS.outs (P := [[b0_3]]) hpk2 0 rfl) _ (List.mem_singleton.2 rfl))
    replace hms := hms.ev he14
    have hPf : ∀ b ∈ fl [[b0_3]], w.heap.size ≤ b := FR.mem (ls := [[b0_3]]) (hfr.pick [some 2] _ rfl)
    replace hev := hev.then he14 (fun b hb => .inr (hPf b hb))
    replace hf3_1 := hp14_0
    clear hpk hsb hsb0 hpk2 hsb2 hst0 hsn hst
    refine x_pure 1 [(20, .bool (x13.1 == 0))] _ _ _ (by kernel_rfl) ?_
    refine x_end rfl (k_then ?_)
    refine c_cond (x13.1 == 0) rfl (fun hb => ?_) (fun hb => ?_)
    · replace h := ite_t hb h
      refine c_seq (c_plain ?_)
      refine x_fieldAddr (xv := .pointer (some ⟨b9, 0, none⟩)) (.pointer (some ⟨b9, 0, none⟩)) rfl rfl rfl (reads_field tfld24_0 _ _) ?_
      refine x_load (xv := .pointer (some ⟨b9, 0, none⟩)) (.slice a0_7 (x6.1.1).length c0_7) rfl rfl rfl (reads_box tcell22 hb9 nn 0 _ rfl) ?_
      refine x_len (vs := [.slice a0_7 (x6.1.1).length c0_7]) (.int .i64 ((x6.1.1).length : Int)) rfl rfl rfl (reads_len tsl22 _ _ _ _ _) ?_
      refine x_pure 1 [(24, .int .i64 0)] _ _ _ (by kernel_rfl) ?_
      refine x_end rfl (k_then ?_)
      refine c_norm [(4, .pointer (some ⟨b9, 0, none⟩)), (23, .int .i64 ((x6.1.1).length : Int)), (24, .int .i64 0)] ⟨rfl, rfl, rfl, trivial⟩ (fun J => ?_)
      refine c_block ?_
      have hpk : MS w14 [blk a0_7, [b9], M] := hms.pick [some 1, some 0, some 3] _ rfl
      have hsu : ∀ x ∈ fl [blk a0_7, [b9], M], x ∈ fl [[b9], blk a0_7, [b0_3], M] := pick_sub [some 1, some 0, some 3] _ rfl
      replace hf7_1 := hf7_1.sub hsu
      replace hms := hpk
      replace hfr : FR w.heap.size [blk a0_7, [b9]] := hfr.pick [some 1, some 0] _ rfl
      clear hpk hsu
      obtain ⟨d15, hd15, h15⟩ := bind_some h
      obtain ⟨m15, hd15⟩ := loop_some hd15
      refine c_loop (loop_rule hmx (σ := Nat × (List (Int × Int × Int × Int)) × Int × Option Addr) (fun s => match s with | (_, d8_l15, t24__s24_l15, a8_l15) => [(4, .pointer (some ⟨b9, 0, none⟩)), (23, .int .i64 ((x6.1.1).length : Int)), (24, .int .i64 t24__s24_l15)]) (fun s w' => match s with | (m, d8_l15, t24__s24_l15, a8_l15) => loopN (law11_JobFlat_L15 x6) m (d8_l15, t24__s24_l15) = some d15 ∧ Ev [] w w' ∧ MS w' [blk a8_l15, [b9], M] ∧ FR w.heap.size [blk a8_l15, [b9]] ∧ OwnS (eProd (eInt .i64) (eProd (eInt .i64) (eProd (eInt .i64) (eInt .i64)))) 26 w' (fl [blk a8_l15, [b9], M]) a8_l15 c0_7 d8_l15 ∧ w'.heap[b9]? = some (.cells #[.slice a8_l15 (d8_l15).length c0_7, .int .i64 x6.1.2] 24 (0, 0))) (fun s => s.1) (m15, x6.1.1, 0, a0_7) ⟨rfl, rfl, rfl, trivial⟩ ⟨hd15, hev, hms, hfr, hf7_1, hb9⟩ ?_)
      rintro ⟨m15, d8_l15, t24__s24_l15, a8_l15⟩ J wl15 ⟨hn15, hev, hms, hfr, hf7_1, hb9⟩
      rcases m15 with _ | m15
      · exact (loopN_zero hn15).elim
      obtain ⟨t15, h, hn15⟩ := bind_some hn15
      refine c_seq (c_plain ?_)
      refine x_pure 1 [(25, .bool (decide (t24__s24_l15 < ((x6.1.1).length : Int))))] _ _ _ (by kernel_rfl) ?_
      refine x_end rfl (k_then ?_)
      refine c_norm [(4, .pointer (some ⟨b9, 0, none⟩)), (23, .int .i64 ((x6.1.1).length : Int)), (24, .int .i64 t24__s24_l15), (25, .bool (decide (t24__s24_l15 < ((x6.1.1).length : Int))))] ⟨rfl, rfl, rfl, rfl, trivial⟩ (fun J => ?_)
      refine c_seq ?_
      refine c_cond (decide (t24__s24_l15 < ((x6.1.1).length : Int))) rfl (fun hb => ?_) (fun hb => ?_)
      · replace h := ite_t hb h
        refine c_skip ?_
        refine k_then ?_
        refine c_seq ?_
        refine c_block ?_
        refine c_seq (c_plain ?_)
        refine x_pure 2 [(26, .int .i64 t24__s24_l15), (5, .int .i64 t24__s24_l15)] _ _ _ (by kernel_rfl) ?_
        refine x_end rfl (k_then ?_)
        refine c_plain ?_
        refine x_fieldAddr (xv := .pointer (some ⟨b9, 0, none⟩)) (.pointer (some ⟨b9, 0, none⟩)) rfl rfl rfl (reads_field tfld24_0 _ _) ?_
        refine x_load (xv := .pointer (some ⟨b9, 0, none⟩)) (.slice a8_l15 (d8_l15).length c0_7) rfl rfl rfl (reads_box tcell22 hb9 nn 0 _ rfl) ?_
        refine x_pure 3 [(29, .int .i64 t24__s24_l15), (30, .int .i64 t24__s24_l15), (31, .int .i64 (IntKind.i64.wrap (Int.tdiv t24__s24_l15 2)))] _ _ _ (by kernel_rfl) ?_
        obtain ⟨x17, hx17, h⟩ := bind_some h
        obtain ⟨g17, cs17, ha, hr17, hc17, hR⟩ := own_index (Mo := []) tsl22 hf7_1 hx17
        subst ha
        obtain ⟨_, _, rfl, rfl, ⟨_, _, rfl, rfl, ⟨_, _, rfl, rfl, rfl⟩⟩⟩ := hR
        refine x_indexAddr (xv := .slice (some ⟨g17, 0, none⟩) (d8_l15).length c0_7) (yv := .int .i64 t24__s24_l15) (.pointer (some ⟨g17, (Int.toNat t24__s24_l15) * (eProd (eInt .i64) (eProd (eInt .i64) (eProd (eInt .i64) (eInt .i64)))).n, none⟩)) rfl rfl rfl rfl hr17 ?_
        refine x_fieldAddr (xv := .pointer (some ⟨g17, (Int.toNat t24__s24_l15) * (eProd (eInt .i64) (eProd (eInt .i64) (eProd (eInt .i64) (eInt .i64)))).n, none⟩)) (.pointer (some ⟨g17, (Int.toNat t24__s24_l15) * (eProd (eInt .i64) (eProd (eInt .i64) (eProd (eInt .i64) (eInt .i64)))).n + 1, none⟩)) rfl rfl rfl (reads_field tfld26_1 _ _) ?_
        obtain ⟨w19, hr19, he19, ho19⟩ := own_store (y := (x17.1, IntKind.i64.wrap (Int.tdiv t24__s24_l15 2), x17.2.2.1, x17.2.2.2)) 1 (.int .i64 (IntKind.i64.wrap (Int.tdiv t24__s24_l15 2))) tcell3 hf7_1 (mem_flat 0 rfl _ (List.mem_singleton.2 rfl)) hx17 rfl rfl (by intro w M cs hR; obtain ⟨_, _, rfl, rfl, ⟨_, _, rfl, rfl, ⟨_, _, rfl, rfl, rfl⟩⟩⟩ := hR; exact ⟨[_], _, rfl, rfl, ⟨[_], _, rfl, rfl, ⟨[_], _, rfl, rfl, rfl⟩⟩⟩)
        refine x_store w19 (xv := .pointer (some ⟨g17, (Int.toNat t24__s24_l15) * (eProd (eInt .i64) (eProd (eInt .i64) (eProd (eInt .i64) (eInt .i64)))).n + 1, none⟩)) (yv := .int .i64 (IntKind.i64.wrap (Int.tdiv t24__s24_l15 2))) rfl rfl rfl rfl hr19 ?_
        refine ⟨.inl rfl, ?_⟩
        replace hb9 := he19.box hb9 (hms.apart 1 0 rfl rfl rfl _ (List.mem_singleton.2 rfl))
        replace hms := hms.ev he19
        replace hev := hev.then he19 (fun b hb => .inr (hfr.at 0 rfl b hb))
        replace hf7_1 := ho19
        have hsl : (Value.slice (some ⟨g17, 0, none⟩) (d8_l15).length c0_7) = (Value.slice (some ⟨g17, 0, none⟩) ((d8_l15.set (Int.toNat t24__s24_l15) (x17.1, IntKind.i64.wrap (Int.tdiv t24__s24_l15 2), x17.2.2.1, x17.2.2.2))).length c0_7) := by first | (rw [List.length_set]; done) | simp only [List.length_set]
        rw [hsl] at hb9
        try rw [hsl]
        clear hsl
        refine x_end rfl ?_
        refine k_block ?_
        refine k_then ?_
        refine c_plain ?_
        refine x_pure 2 [(34, .int .i64 (IntKind.i64.wrap (t24__s24_l15 + 1))), (24, .int .i64 (IntKind.i64.wrap (t24__s24_l15 + 1)))] _ _ _ (by kernel_rfl) ?_
        refine x_end rfl ?_
        have hx := some_inj h
        subst hx
        exact k_then ⟨(m15, (d8_l15.set (Int.toNat t24__s24_l15) (x17.1, IntKind.i64.wrap (Int.tdiv t24__s24_l15 2), x17.2.2.1, x17.2.2.2)), IntKind.i64.wrap (t24__s24_l15 + 1), (some ⟨g17, 0, none⟩)), ⟨rfl, rfl, rfl, trivial⟩, ⟨hn15, hev, hms, hfr, hf7_1, hb9⟩, Nat.lt_succ_self _⟩
      replace h := ite_f hb h
      refine c_exit ?_
      refine k_then_exit ?_
      have hx := some_inj h
      subst hx
      have hy := some_inj hn15
      subst hy
      replace h := h15
      refine k_then_exit ?_
      refine k_block_in ?_
      exact k_then ⟨(d8_l15, a8_l15), ⟨rfl, trivial⟩, h, hev, hms, hfr, hf7_1, hb9⟩
    replace h := ite_f hb h
    refine c_skip ?_
    have hpk : MS w14 [blk a0_7, [b9], M] := hms.pick [some 1, some 0, some 3] _ rfl
    have hsu : ∀ x ∈ fl [blk a0_7, [b9], M], x ∈ fl [[b9], blk a0_7, [b0_3], M] := pick_sub [some 1, some 0, some 3] _ rfl
    replace hf7_1 := hf7_1.sub hsu
    replace hms := hpk
    replace hfr : FR w.heap.size [blk a0_7, [b9]] := hfr.pick [some 1, some 0] _ rfl
    clear hpk hsu
    exact k_then ⟨(x6.1.1, a0_7), ⟨rfl, trivial⟩, h, hev, hms, hfr, hf7_1, hb9⟩
  rintro ⟨d8_j12, a8_j12⟩ J wj12 ⟨h, hev, hms, hfr, hf7_1, hb9⟩
  refine c_seq (c_plain ?_)
  refine x_load (xv := .pointer (some ⟨b9, 0, none⟩)) (.agg #[.slice a8_j12 (d8_j12).length c0_7, .int .i64 x6.1.2]) rfl rfl rfl (reads_boxagg 0 [.slice a8_j12 (d8_j12).length c0_7, .int .i64 x6.1.2] tagg24 hb9 nn rfl) ?_
  obtain ⟨x20, hx, h⟩ := bind_some h
  have hpk : MS wj12 ([] ++ [[b9], M]) := hms.pick [some 1, some 2] _ rfl
  have hsb0 : ∀ x ∈ fl ([] ++ [[b9], M]), x ∈ fl [blk a8_j12, [b9], M] := pick_sub [some 1, some 2] _ rfl
  have hsb : ∀ x ∈ fl ([] ++ [(fl [[b9], M])]), x ∈ fl [blk a8_j12, [b9], M] := fun x hx => hsb0 x (fl_unfold x hx)
  have hcall := job_Levels_w a8_j12 c0_7 d8_j12 x6.1.2 _ wj12 (fl [[b9], M]) (MS.fold (P := []) hpk) (hf7_1.ro hsb (fun b hb hb2 => pick_out hms 0 rfl [some 1, some 2] ([] ++ [[b9], M]) rfl rfl b hb (fl_unfold b hb2))) hx
  refine x_call 10 #[] #[] [.agg #[.slice a8_j12 (d8_j12).length c0_7, .int .i64 x6.1.2]] _ rfl rfl rfl rfl hcall ?_
  rintro v w21 ⟨a0_21, c0_21, rfl, he21, hmn21, hfn21, hf21_1⟩
  clear hcall hx
  refine ⟨.inl rfl, ?_⟩
  have hpk2 : MS wj12 ([] ++ [blk a8_j12, [b9], M]) := hms.pick [some 0, some 1, some 2] _ rfl
  have hsb2 : ∀ x ∈ fl ([] ++ [blk a8_j12, [b9], M]), x ∈ fl [blk a8_j12, [b9], M] := pick_sub [some 0, some 1, some 2] _ rfl
  have hst0 := Stp.call (LS := [blk a8_j12, [b9], M]) (res := [blk a0_21]) (par := []) (R := [blk a8_j12, [b9], M]) he21 (fun b hb => hsb2 b (fl_left' (P := []) b hb)) hfn21 (NP.init _ _) (fun x hx => hsb2 x (fl_right' (P := []) x hx))
  have hsn : ∀ x ∈ fl [blk a0_21, blk a8_j12, [b9], M], x ∈ fl ([blk a0_21] ++ ([] ++ [blk a8_j12, [b9], M])) := pick_sub [some 0, some 1, some 2, some 3] _ rfl
  have hst := hst0.res hsn
  replace hb9 := he21.box hb9 ((MS.outs (P := []) hpk2 1 rfl) _ (List.mem_singleton.2 rfl))
  replace hf7_1 := hf7_1.step hst he21 (MS.outs (P := []) hpk2 0 rfl)
  replace hms : MS w21 [blk a0_21, blk a8_j12, [b9], M] := (MS.call (P := []) (R := [blk a8_j12, [b9], M]) (res := [blk a0_21]) (par := []) hpk2 he21 hmn21 hfn21 (NP.init _ _)).pick [some 0, some 1, some 2, some 3] _ rfl
  have hfr2 : FR w.heap.size [blk a0_21, blk a8_j12, [b9]] := (FR.cons (fun b hb => Nat.le_trans hev.size (hfn21.at 0 rfl b hb)) (FR.cons (hfr.at 0 rfl) (FR.cons (hfr.at 1 rfl) (FR.nil _))))
  replace hev := hev.ext he21
  replace hfr := hfr2
  clear hfr2
  replace hf21_1 := OwnS.plain (M' := fl [blk a0_21, blk a8_j12, [b9], M]) (plain_int _) hf21_1
  clear hpk hsb hsb0 hpk2 hsb2 hst0 hsn hst
  have hpk : MS w21 [blk a8_j12, [b9], M] := hms.pick [some 1, some 2, some 3] _ rfl
  have hsu : ∀ x ∈ fl [blk a8_j12, [b9], M], x ∈ fl [blk a0_21, blk a8_j12, [b9], M] := pick_sub [some 1, some 2, some 3] _ rfl
  replace hf7_1 := hf7_1.sub hsu
  replace hf21_1 := hf21_1.ro hsu (pick_out hms 0 rfl [some 1, some 2, some 3] [blk a8_j12, [b9], M] rfl rfl)
  replace hms := hpk
  replace hfr : FR w.heap.size [blk a8_j12, [b9]] := hfr.pick [some 1, some 2] _ rfl
  clear hpk hsu
  refine x_pure 5 [(35, .tuple #[.slice a0_21 (x20.1).length c0_21, .int .i64 x20.2]), (38, .slice a0_21 (x20.1).length c0_21), (39, .int .i64 x20.2), (6, .slice a0_21 (x20.1).length c0_21), (7, .int .i64 x20.2)] _ _ _ (by kernel_rfl) ?_
  refine x_end rfl (k_then ?_)
  refine c_norm [(4, .pointer (some ⟨b9, 0, none⟩)), (6, .slice a0_21 (x20.1).length c0_21), (7, .int .i64 x20.2)] ⟨rfl, rfl, rfl, trivial⟩ (fun J => ?_)
  refine c_seq ?_
  refine c_seq (c_plain ?_)
  refine x_pure 3 [(40, .int .i64 x20.2), (41, .bool (x20.2 != 0)), (42, .bool (x20.2 != 0))] _ _ _ (by kernel_rfl) ?_
  refine x_split 42 (x20.2 != 0) rfl (fun hb => ?_) (fun hb => ?_)
  · replace h := ite_t hb h
    refine x_pure 7 [(43, undef), (44, undef), (45, undef), (46, undef), (47, undef), (48, undef), (49, .bool true)] _ _ _ (by kernel_rfl) ?_
    refine x_end rfl (k_then ?_)
    refine c_true rfl ?_
    refine c_seq (c_plain ?_)
    refine x_pure 1 [(2, .bool false)] _ _ _ (by kernel_rfl) ?_
    refine x_end rfl (k_then ?_)
    refine c_ret ?_
    refine k_then_ret ?_
    refine r_ret (r_vals [.bool false] ⟨rfl, trivial⟩ ?_)
    have hx := some_inj h
    subst hx
    have hmr : MS w21 [M] := hms.pick [some 2] _ rfl
    have hsu : ∀ x ∈ fl [M], x ∈ fl [blk a8_j12, [b9], M] := pick_sub [some 2] _ rfl
    exact ⟨rfl, hev⟩
  replace h := ite_f hb h
  refine x_pure 1 [(43, .slice a0_21 (x20.1).length c0_21)] _ _ _ (by kernel_rfl) ?_
  refine x_len (vs := [.slice a0_21 (x20.1).length c0_21]) (.int .i64 ((x20.1).length : Int)) rfl rfl rfl (reads_len tsl27 _ _ _ _ _) ?_
  refine x_fieldAddr (xv := .pointer (some ⟨b9, 0, none⟩)) (.pointer (some ⟨b9, 0, none⟩)) rfl rfl rfl (reads_field tfld24_0 _ _) ?_
  refine x_load (xv := .pointer (some ⟨b9, 0, none⟩)) (.slice a8_j12 (d8_j12).length c0_7) rfl rfl rfl (reads_box tcell22 hb9 nn 0 _ rfl) ?_
  refine x_len (vs := [.slice a8_j12 (d8_j12).length c0_7]) (.int .i64 ((d8_j12).length : Int)) rfl rfl rfl (reads_len tsl22 _ _ _ _ _) ?_
  refine x_pure 2 [(48, .bool (((x20.1).length : Int) != ((d8_j12).length : Int))), (49, .bool (((x20.1).length : Int) != ((d8_j12).length : Int)))] _ _ _ (by kernel_rfl) ?_
  refine x_end rfl (k_then ?_)
  refine c_cond (((x20.1).length : Int) != ((d8_j12).length : Int)) rfl (fun hb => ?_) (fun hb => ?_)
  · replace h := ite_t hb h
    refine c_seq (c_plain ?_)
    refine x_pure 1 [(2, .bool false)] _ _ _ (by kernel_rfl) ?_
    refine x_end rfl (k_then ?_)
    refine c_ret ?_
    refine k_then_ret ?_
    refine r_ret (r_vals [.bool false] ⟨rfl, trivial⟩ ?_)
    have hx := some_inj h
    subst hx
    have hmr : MS w21 [M] := hms.pick [some 2] _ rfl
    have hsu : ∀ x ∈ fl [M], x ∈ fl [blk a8_j12, [b9], M] := pick_sub [some 2] _ rfl
    exact ⟨rfl, hev⟩
  replace h := ite_f hb h
  refine c_skip ?_
  refine k_then ?_
  refine c_seq (c_plain ?_)
  refine x_pure 2 [(8, .bool true), (9, .bool false)] _ _ _ (by kernel_rfl) ?_
  refine x_end rfl (k_then ?_)
  refine c_norm [(4, .pointer (some ⟨b9, 0, none⟩)), (6, .slice a0_21 (x20.1).length c0_21), (8, .bool true), (9, .bool false)] ⟨rfl, rfl, rfl, rfl, trivial⟩ (fun J => ?_)
  refine c_seq ?_
  refine c_seq (c_plain ?_)
  refine x_pure 1 [(50, .slice a0_21 (x20.1).length c0_21)] _ _ _ (by kernel_rfl) ?_
  refine x_len (vs := [.slice a0_21 (x20.1).length c0_21]) (.int .i64 ((x20.1).length : Int)) rfl rfl rfl (reads_len tsl27 _ _ _ _ _) ?_
  refine x_pure 1 [(52, .int .i64 0)] _ _ _ (by kernel_rfl) ?_
  refine x_end rfl (k_then ?_)
  refine c_block ?_
  obtain ⟨d25, hd25, h25⟩ := bind_some h
  obtain ⟨m25, hd25⟩ := loop_some hd25
  refine c_loop (loop_rule hmx (σ := Nat × Bool × Bool × Int) (fun s => match s with | (_, flat_s8_l25, strict_s9_l25, t52__s52_l25) => [(4, .pointer (some ⟨b9, 0, none⟩)), (6, .slice a0_21 (x20.1).length c0_21), (8, .bool flat_s8_l25), (9, .bool strict_s9_l25), (51, .int .i64 ((x20.1).length : Int)), (52, .int .i64 t52__s52_l25)]) (fun s w' => match s with | (m, flat_s8_l25, strict_s9_l25, t52__s52_l25) => loopN (law11_JobFlat_L25 x6 d8_j12 x20) m (flat_s8_l25, strict_s9_l25, t52__s52_l25) = some d25 ∧ Ev [] w w' ∧ MS w' [blk a8_j12, [b9], M] ∧ FR w.heap.size [blk a8_j12, [b9]] ∧ OwnS (eProd (eInt .i64) (eProd (eInt .i64) (eProd (eInt .i64) (eInt .i64)))) 26 w' (fl [blk a8_j12, [b9], M]) a8_j12 c0_7 d8_j12 ∧ w'.heap[b9]? = some (.cells #[.slice a8_j12 (d8_j12).length c0_7, .int .i64 x6.1.2] 24 (0, 0)) ∧ SlR (eInt .i64) w' (fl [blk a8_j12, [b9], M]) a0_21 c0_21 x20.1) (fun s => s.1) (m25, true, false, 0) ⟨rfl, rfl, rfl, rfl, rfl, rfl, trivial⟩ ⟨hd25, hev, hms, hfr, hf7_1, hb9, hf21_1⟩ ?_)
  rintro ⟨m25, flat_s8_l25, strict_s9_l25, t52__s52_l25⟩ J wl25 ⟨hn25, hev, hms, hfr, hf7_1, hb9, hf21_1⟩
  rcases m25 with _ | m25
  · exact (loopN_zero hn25).elim
  obtain ⟨t25, h, hn25⟩ := bind_some hn25
  refine c_seq (c_plain ?_)
  refine x_pure 1 [(53, .bool (decide (t52__s52_l25 < ((x20.1).length : Int))))] _ _ _ (by kernel_rfl) ?_
  refine x_end rfl (k_then ?_)
  refine c_norm [(4, .pointer (some ⟨b9, 0, none⟩)), (6, .slice a0_21 (x20.1).length c0_21), (8, .bool flat_s8_l25), (9, .bool strict_s9_l25), (51, .int .i64 ((x20.1).length : Int)), (52, .int .i64 t52__s52_l25), (53, .bool (decide (t52__s52_l25 < ((x20.1).length : Int))))] ⟨rfl, rfl, rfl, rfl, rfl, rfl, rfl, trivial⟩ (fun J => ?_)
  refine c_seq ?_
  refine c_cond (decide (t52__s52_l25 < ((x20.1).length : Int))) rfl (fun hb => ?_) (fun hb => ?_)
  · replace h := ite_t hb h
    refine c_skip ?_
    refine k_then ?_
    refine c_seq ?_
    refine c_block ?_
    refine c_seq (c_plain ?_)
    refine x_pure 2 [(54, .int .i64 t52__s52_l25), (10, .int .i64 t52__s52_l25)] _ _ _ (by kernel_rfl) ?_
    refine x_end rfl (k_then ?_)
    refine c_join (σ := Bool) (fun s => match s with | flat_s8_j27 => [(4, .pointer (some ⟨b9, 0, none⟩)), (6, .slice a0_21 (x20.1).length c0_21), (8, .bool flat_s8_j27), (9, .bool strict_s9_l25), (10, .int .i64 t52__s52_l25), (51, .int .i64 ((x20.1).length : Int)), (52, .int .i64 t52__s52_l25)]) (fun s w' => match s with | flat_s8_j27 => law11_JobFlat_J27 x6 d8_j12 x20 strict_s9_l25 t52__s52_l25 flat_s8_j27 = some t25 ∧ Ev [] w w' ∧ MS w' [blk a8_j12, [b9], M] ∧ FR w.heap.size [blk a8_j12, [b9]] ∧ OwnS (eProd (eInt .i64) (eProd (eInt .i64) (eProd (eInt .i64) (eInt .i64)))) 26 w' (fl [blk a8_j12, [b9], M]) a8_j12 c0_7 d8_j12 ∧ w'.heap[b9]? = some (.cells #[.slice a8_j12 (d8_j12).length c0_7, .int .i64 x6.1.2] 24 (0, 0)) ∧ SlR (eInt .i64) w' (fl [blk a8_j12, [b9], M]) a0_21 c0_21 x20.1) ?_ ?_
    · refine c_plain ?_
      refine x_pure 2 [(55, .bool flat_s8_l25), (56, .bool flat_s8_l25)] _ _ _ (by kernel_rfl) ?_
      refine x_split 56 flat_s8_l25 rfl (fun hb => ?_) (fun hb => ?_)
      · replace h := ite_t hb h
        refine x_pure 2 [(57, .slice a0_21 (x20.1).length c0_21), (58, .int .i64 t52__s52_l25)] _ _ _ (by kernel_rfl) ?_
        obtain ⟨x28, hx28, h⟩ := bind_some h
        obtain ⟨ad28, cs28, hr28, hc28, hR⟩ := reads_index (Mo := []) tsl27 hf21_1 hx28
        obtain rfl := hR
        refine x_indexAddr (xv := .slice a0_21 (x20.1).length c0_21) (yv := .int .i64 t52__s52_l25) (.pointer (some ad28)) rfl rfl rfl rfl hr28 ?_
        refine x_load (xv := .pointer (some ad28)) (.int .i64 x28) rfl rfl rfl (reads_cell0 tcell3 hc28 (fun _ h => by cases h)) ?_
        refine x_pure 3 [(61, .bool (x28 == 0)), (62, .bool (x28 == 0)), (8, .bool (x28 == 0))] _ _ _ (by kernel_rfl) ?_
        refine x_end rfl ?_
        exact k_then ⟨x28 == 0, ⟨rfl, rfl, rfl, rfl, rfl, rfl, rfl, trivial⟩, h, hev, hms, hfr, hf7_1, hb9, hf21_1⟩
      replace h := ite_f hb h
      refine x_pure 7 [(57, undef), (58, undef), (59, undef), (60, undef), (61, undef), (62, .bool false), (8, .bool false)] _ _ _ (by kernel_rfl) ?_
      refine x_end rfl ?_
      exact k_then ⟨false, ⟨rfl, rfl, rfl, rfl, rfl, rfl, rfl, trivial⟩, h, hev, hms, hfr, hf7_1, hb9, hf21_1⟩
    rintro flat_s8_j27 J wj27 ⟨h, hev, hms, hfr, hf7_1, hb9, hf21_1⟩
    refine c_seq (c_plain ?_)
    refine x_pure 1 [(63, .slice a0_21 (x20.1).length c0_21)] _ _ _ (by kernel_rfl) ?_
    refine x_len (vs := [.slice a0_21 (x20.1).length c0_21]) (.int .i64 ((x20.1).length : Int)) rfl rfl rfl (reads_len tsl27 _ _ _ _ _) ?_
    refine x_pure 1 [(65, .int .i64 0)] _ _ _ (by kernel_rfl) ?_
    refine x_end rfl (k_then ?_)
    refine c_norm [(4, .pointer (some ⟨b9, 0, none⟩)), (6, .slice a0_21 (x20.1).length c0_21), (8, .bool flat_s8_j27), (9, .bool strict_s9_l25), (10, .int .i64 t52__s52_l25), (51, .int .i64 ((x20.1).length : Int)), (52, .int .i64 t52__s52_l25), (64, .int .i64 ((x20.1).length : Int)), (65, .int .i64 0)] ⟨rfl, rfl, rfl, rfl, rfl, rfl, rfl, rfl, rfl, trivial⟩ (fun J => ?_)
    refine c_block ?_
    obtain ⟨d30, hd30, h30⟩ := bind_some h
    obtain ⟨m30, hd30⟩ := loop_some hd30
    refine c_loop (loop_rule hmx (σ := Nat × Bool × Int) (fun s => match s with | (_, strict_s9_l30, t65__s65_l30) => [(4, .pointer (some ⟨b9, 0, none⟩)), (6, .slice a0_21 (x20.1).length c0_21), (8, .bool flat_s8_j27), (9, .bool strict_s9_l30), (10, .int .i64 t52__s52_l25), (51, .int .i64 ((x20.1).length : Int)), (52, .int .i64 t52__s52_l25), (64, .int .i64 ((x20.1).length : Int)), (65, .int .i64 t65__s65_l30)]) (fun s w' => match s with | (m, strict_s9_l30, t65__s65_l30) => loopN (law11_JobFlat_L30 x6 d8_j12 x20 t52__s52_l25) m (strict_s9_l30, t65__s65_l30) = some d30 ∧ Ev [] w w' ∧ MS w' [blk a8_j12, [b9], M] ∧ FR w.heap.size [blk a8_j12, [b9]] ∧ OwnS (eProd (eInt .i64) (eProd (eInt .i64) (eProd (eInt .i64) (eInt .i64)))) 26 w' (fl [blk a8_j12, [b9], M]) a8_j12 c0_7 d8_j12 ∧ w'.heap[b9]? = some (.cells #[.slice a8_j12 (d8_j12).length c0_7, .int .i64 x6.1.2] 24 (0, 0)) ∧ SlR (eInt .i64) w' (fl [blk a8_j12, [b9], M]) a0_21 c0_21 x20.1) (fun s => s.1) (m30, strict_s9_l25, 0) ⟨rfl, rfl, rfl, rfl, rfl, rfl, rfl, rfl, rfl, trivial⟩ ⟨hd30, hev, hms, hfr, hf7_1, hb9, hf21_1⟩ ?_)
    rintro ⟨m30, strict_s9_l30, t65__s65_l30⟩ J wl30 ⟨hn30, hev, hms, hfr, hf7_1, hb9, hf21_1⟩
    rcases m30 with _ | m30
    · exact (loopN_zero hn30).elim
    obtain ⟨t30, h, hn30⟩ := bind_some hn30
    refine c_seq (c_plain ?_)
    refine x_pure 1 [(66, .bool (decide (t65__s65_l30 < ((x20.1).length : Int))))] _ _ _ (by kernel_rfl) ?_
    refine x_end rfl (k_then ?_)
    refine c_norm [(4, .pointer (some ⟨b9, 0, none⟩)), (6, .slice a0_21 (x20.1).length c0_21), (8, .bool flat_s8_j27), (9, .bool strict_s9_l30), (10, .int .i64 t52__s52_l25), (51, .int .i64 ((x20.1).length : Int)), (52, .int .i64 t52__s52_l25), (64, .int .i64 ((x20.1).length : Int)), (65, .int .i64 t65__s65_l30), (66, .bool (decide (t65__s65_l30 < ((x20.1).length : Int))))] ⟨rfl, rfl, rfl, rfl, rfl, rfl, rfl, rfl, rfl, rfl, trivial⟩ (fun J => ?_)
    refine c_seq ?_
    refine c_cond (decide (t65__s65_l30 < ((x20.1).length : Int))) rfl (fun hb => ?_) (fun hb => ?_)
    · replace h := ite_t hb h
      refine c_skip ?_
      refine k_then ?_
      refine c_seq ?_
      refine c_block ?_
      refine c_seq (c_plain ?_)
      refine x_pure 2 [(67, .int .i64 t65__s65_l30), (11, .int .i64 t65__s65_l30)] _ _ _ (by kernel_rfl) ?_
      refine x_end rfl (k_then ?_)
      refine c_seq (c_plain ?_)
      refine x_load (xv := .pointer (some ⟨b9, 0, none⟩)) (.agg #[.slice a8_j12 (d8_j12).length c0_7, .int .i64 x6.1.2]) rfl rfl rfl (reads_boxagg 0 [.slice a8_j12 (d8_j12).length c0_7, .int .i64 x6.1.2] tagg24 hb9 nn rfl) ?_
      refine x_pure 2 [(70, .int .i64 t65__s65_l30), (71, .int .i64 t52__s52_l25)] _ _ _ (by kernel_rfl) ?_
      obtain ⟨x32, hx, h⟩ := bind_some h
      have hpk : MS wl30 ([] ++ [[b9], M]) := hms.pick [some 1, some 2] _ rfl
      have hsb0 : ∀ x ∈ fl ([] ++ [[b9], M]), x ∈ fl [blk a8_j12, [b9], M] := pick_sub [some 1, some 2] _ rfl
      have hsb : ∀ x ∈ fl ([] ++ [(fl [[b9], M])]), x ∈ fl [blk a8_j12, [b9], M] := fun x hx => hsb0 x (fl_unfold x hx)
      have hcall := job_Relation_w a8_j12 c0_7 d8_j12 x6.1.2 t65__s65_l30 t52__s52_l25 _ wl30 (fl [[b9], M]) (MS.fold (P := []) hpk) (hf7_1.ro hsb (fun b hb hb2 => pick_out hms 0 rfl [some 1, some 2] ([] ++ [[b9], M]) rfl rfl b hb (fl_unfold b hb2))) hx
      refine x_call 23 #[] #[] [.agg #[.slice a8_j12 (d8_j12).length c0_7, .int .i64 x6.1.2], .int .i64 t65__s65_l30, .int .i64 t52__s52_l25] _ rfl rfl rfl rfl hcall ?_
      rintro v w33 ⟨rfl, he33⟩
      clear hcall hx
      refine ⟨.inl rfl, ?_⟩
      have hst := Stp.ext (ls := [blk a8_j12, [b9], M]) he33
      replace hb9 := he33.box hb9 nn
      replace hf7_1 := hf7_1.step hst he33 nn2
      replace hf21_1 := hf21_1.step hst
      replace hms := hms.ev he33
      replace hev := hev.ext he33
      clear hpk hsb hsb0
      refine x_pure 5 [(68, .tuple #[.int .i64 x32.1, .int .i64 x32.2]), (73, .int .i64 x32.1), (74, .int .i64 x32.2), (12, .int .i64 x32.1), (13, .int .i64 x32.2)] _ _ _ (by kernel_rfl) ?_
      refine x_end rfl (k_then ?_)
      refine c_plain ?_
      refine x_pure 2 [(75, .bool strict_s9_l30), (76, .bool strict_s9_l30)] _ _ _ (by kernel_rfl) ?_
      refine x_split 76 strict_s9_l30 rfl (fun hb => ?_) (fun hb => ?_)
      · replace h := ite_t hb h
        refine x_pure 4 [(77, undef), (78, undef), (79, .bool true), (9, .bool true)] _ _ _ (by kernel_rfl) ?_
        refine x_end rfl ?_
        refine k_block ?_
        refine k_then ?_
        refine c_norm [(4, .pointer (some ⟨b9, 0, none⟩)), (6, .slice a0_21 (x20.1).length c0_21), (8, .bool flat_s8_j27), (9, .bool true), (10, .int .i64 t52__s52_l25), (51, .int .i64 ((x20.1).length : Int)), (52, .int .i64 t52__s52_l25), (64, .int .i64 ((x20.1).length : Int)), (65, .int .i64 t65__s65_l30)] ⟨rfl, rfl, rfl, rfl, rfl, rfl, rfl, rfl, rfl, trivial⟩ (fun J => ?_)
        refine c_plain ?_
        refine x_pure 2 [(80, .int .i64 (IntKind.i64.wrap (t65__s65_l30 + 1))), (65, .int .i64 (IntKind.i64.wrap (t65__s65_l30 + 1)))] _ _ _ (by kernel_rfl) ?_
        refine x_end rfl ?_
        have hx := some_inj h
        subst hx
        exact k_then ⟨(m30, true, IntKind.i64.wrap (t65__s65_l30 + 1)), ⟨rfl, rfl, rfl, rfl, rfl, rfl, rfl, rfl, rfl, trivial⟩, ⟨hn30, hev, hms, hfr, hf7_1, hb9, hf21_1⟩, Nat.lt_succ_self _⟩
      replace h := ite_f hb h
      refine x_pure 4 [(77, .int .i64 x32.1), (78, .bool (x32.1 == 2)), (79, .bool (x32.1 == 2)), (9, .bool (x32.1 == 2))] _ _ _ (by kernel_rfl) ?_
      refine x_end rfl ?_
      refine k_block ?_
      refine k_then ?_
      refine c_norm [(4, .pointer (some ⟨b9, 0, none⟩)), (6, .slice a0_21 (x20.1).length c0_21), (8, .bool flat_s8_j27), (9, .bool (x32.1 == 2)), (10, .int .i64 t52__s52_l25), (51, .int .i64 ((x20.1).length : Int)), (52, .int .i64 t52__s52_l25), (64, .int .i64 ((x20.1).length : Int)), (65, .int .i64 t65__s65_l30)] ⟨rfl, rfl, rfl, rfl, rfl, rfl, rfl, rfl, rfl, trivial⟩ (fun J => ?_)
      refine c_plain ?_
      refine x_pure 2 [(80, .int .i64 (IntKind.i64.wrap (t65__s65_l30 + 1))), (65, .int .i64 (IntKind.i64.wrap (t65__s65_l30 + 1)))] _ _ _ (by kernel_rfl) ?_
      refine x_end rfl ?_
      have hx := some_inj h
      subst hx
      exact k_then ⟨(m30, x32.1 == 2, IntKind.i64.wrap (t65__s65_l30 + 1)), ⟨rfl, rfl, rfl, rfl, rfl, rfl, rfl, rfl, rfl, trivial⟩, ⟨hn30, hev, hms, hfr, hf7_1, hb9, hf21_1⟩, Nat.lt_succ_self _⟩
    replace h := ite_f hb h
    refine c_exit ?_
    refine k_then_exit ?_
    have hx := some_inj h
    subst hx
    have hy := some_inj hn30
    subst hy
    replace h := h30
    refine k_then_exit ?_
    refine k_block_in ?_
    refine k_block ?_
    refine k_then ?_
    refine c_norm [(4, .pointer (some ⟨b9, 0, none⟩)), (6, .slice a0_21 (x20.1).length c0_21), (8, .bool flat_s8_j27), (9, .bool strict_s9_l30), (51, .int .i64 ((x20.1).length : Int)), (52, .int .i64 t52__s52_l25)] ⟨rfl, rfl, rfl, rfl, rfl, rfl, trivial⟩ (fun J => ?_)
    refine c_plain ?_
    refine x_pure 2 [(81, .int .i64 (IntKind.i64.wrap (t52__s52_l25 + 1))), (52, .int .i64 (IntKind.i64.wrap (t52__s52_l25 + 1)))] _ _ _ (by kernel_rfl) ?_
    refine x_end rfl ?_
    have hx := some_inj h
    subst hx
    exact k_then ⟨(m25, flat_s8_j27, strict_s9_l30, IntKind.i64.wrap (t52__s52_l25 + 1)), ⟨rfl, rfl, rfl, rfl, rfl, rfl, trivial⟩, ⟨hn25, hev, hms, hfr, hf7_1, hb9, hf21_1⟩, Nat.lt_succ_self _⟩
  replace h := ite_f hb h
  refine c_exit ?_
  refine k_then_exit ?_
  have hx := some_inj h
  subst hx
  have hy := some_inj hn25
  subst hy
  replace h := h25
  refine k_then_exit ?_
  refine k_block_in ?_
  refine k_then ?_
  refine c_norm [(8, .bool flat_s8_l25), (9, .bool strict_s9_l25)] ⟨rfl, rfl, trivial⟩ (fun J => ?_)
  refine c_seq (c_plain ?_)
  refine x_pure 2 [(82, .bool flat_s8_l25), (83, .bool strict_s9_l25)] _ _ _ (by kernel_rfl) ?_
  refine x_binop (.bool (flat_s8_l25 != strict_s9_l25)) (.bool flat_s8_l25) (.bool strict_s9_l25) rfl rfl rfl rfl (vb_boolneq tbool4) ?_
  refine x_pure 1 [(85, .bool (flat_s8_l25 != strict_s9_l25))] _ _ _ (by kernel_rfl) ?_
  refine x_split 85 (flat_s8_l25 != strict_s9_l25) rfl (fun hb => ?_) (fun hb => ?_)
  · replace h := ite_t hb h
    obtain ⟨x34, hx, h⟩ := bind_some h
    have hcall := law11_sane_w _ wl25 hx
    refine x_call 12 #[] #[] [] _ rfl rfl rfl rfl hcall ?_
    rintro v w35 ⟨rfl, he35⟩
    clear hcall hx
    refine ⟨.inl rfl, ?_⟩
    have hst := Stp.ext (ls := [blk a8_j12, [b9], M]) he35
    replace hb9 := he35.box hb9 nn
    replace hf7_1 := hf7_1.step hst he35 nn2
    replace hms := hms.ev he35
    replace hev := hev.ext he35
    refine x_pure 2 [(87, .bool x34), (2, .bool x34)] _ _ _ (by kernel_rfl) ?_
    refine x_end rfl (k_then ?_)
    refine c_ret ?_
    refine r_ret (r_vals [.bool x34] ⟨rfl, trivial⟩ ?_)
    have hx := some_inj h
    subst hx
    have hmr : MS w35 [M] := hms.pick [some 2] _ rfl
    have hsu : ∀ x ∈ fl [M], x ∈ fl [blk a8_j12, [b9], M] := pick_sub [some 2] _ rfl
    exact ⟨rfl, hev⟩
  replace h := ite_f hb h
  refine x_pure 3 [(86, undef), (87, .bool false), (2, .bool false)] _ _ _ (by kernel_rfl) ?_
  refine x_end rfl (k_then ?_)
  refine c_ret ?_
  refine r_ret (r_vals [.bool false] ⟨rfl, trivial⟩ ?_)
  have hx := some_inj h
  subst hx
  have hmr : MS wl25 [M] := hms.pick [some 2] _ rfl
  have hsu : ∀ x ∈ fl [M], x ∈ fl [blk a8_j12, [b9], M] := pick_sub [some 2] _ rfl
  exact ⟨rfl, hev⟩
end Go.Proofs.Ytacimonplnlmgaa
