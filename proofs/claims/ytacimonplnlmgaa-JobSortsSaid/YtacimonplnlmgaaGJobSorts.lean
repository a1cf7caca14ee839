/- Walks, printed by program: each function returns what the partial function of the same name returns. Conditions: those of each theorem. -/
import Derived.Test.YtacimonplnlmgaaGT
import Derived.Test.YtacimonplnlmgaaGgen
import Derived.Test.YtacimonplnlmgaaGjob
import Derived.Test.YtacimonplnlmgaaGlaw11sane
set_option linter.unusedVariables false
set_option linter.unusedSimpArgs false
set_option maxRecDepth 4000
namespace Go.Proofs.Ytacimonplnlmgaa
open Go Go.V Go.Proofs
def law11_JobSorts_L17 (x6 : ((List (Int × Int × Int × Int)) × Int) × Int) (b_s6_l15 : Int) (s : (List (List Int)) × Int) : Option (Step ((List (List Int)) × Int) (List (List Int))) :=
match s with
| (d13_l17, t29__s29_l17) =>
(if (decide (t29__s29_l17 < ((x6.1.1).length : Int))) = true then
((idx x6.1.1 t29__s29_l17).bind fun x19 =>
(if (x19.2.1 == b_s6_l15) = true then
((idx d13_l17 x19.1).bind fun x24 =>
(if x24.length + ([t29__s29_l17]).length ≤ 4294967296 then
((idx d13_l17 x19.1).bind fun x31 =>
some (.next ((d13_l17.set (Int.toNat x19.1) (x24 ++ [t29__s29_l17])), IntKind.i64.wrap (t29__s29_l17 + 1))))
else none))
else
some (.next (d13_l17, IntKind.i64.wrap (t29__s29_l17 + 1)))))
else
some (.done d13_l17))

def law11_JobSorts_L39 (x6 : ((List (Int × Int × Int × Int)) × Int) × Int) (t65__s65_l37 : Int) (s : (List (List Int)) × Int) : Option (Step ((List (List Int)) × Int) (Unit ⊕ (List (List Int)))) :=
match s with
| (d13_l39, i_s12_l39) =>
((idx d13_l39 t65__s65_l37).bind fun x41 =>
(if (decide ((IntKind.i64.wrap (i_s12_l39 + 1)) < ((x41).length : Int))) = true then
((idx d13_l39 t65__s65_l37).bind fun x43 =>
((idx x43 i_s12_l39).bind fun x45 =>
((idx d13_l39 t65__s65_l37).bind fun x47 =>
((idx x47 (IntKind.i64.wrap (i_s12_l39 + 1))).bind fun x49 =>
((idx d13_l39 t65__s65_l37).bind fun x51 =>
((idx d13_l39 t65__s65_l37).bind fun x53 =>
((idx x51 i_s12_l39).bind fun x55 =>
((idx (x51.set (Int.toNat i_s12_l39) x49) (IntKind.i64.wrap (i_s12_l39 + 1))).bind fun x58 =>
((job_Sorted x6.1.1 x6.1.2 ((d13_l39.set (Int.toNat t65__s65_l37) (x51.set (Int.toNat i_s12_l39) x49)).set (Int.toNat t65__s65_l37) ((x51.set (Int.toNat i_s12_l39) x49).set (Int.toNat (IntKind.i64.wrap (i_s12_l39 + 1))) x45))).bind fun x61 =>
((idx ((d13_l39.set (Int.toNat t65__s65_l37) (x51.set (Int.toNat i_s12_l39) x49)).set (Int.toNat t65__s65_l37) ((x51.set (Int.toNat i_s12_l39) x49).set (Int.toNat (IntKind.i64.wrap (i_s12_l39 + 1))) x45)) t65__s65_l37).bind fun x63 =>
((idx ((d13_l39.set (Int.toNat t65__s65_l37) (x51.set (Int.toNat i_s12_l39) x49)).set (Int.toNat t65__s65_l37) ((x51.set (Int.toNat i_s12_l39) x49).set (Int.toNat (IntKind.i64.wrap (i_s12_l39 + 1))) x45)) t65__s65_l37).bind fun x65 =>
((idx x63 i_s12_l39).bind fun x67 =>
((idx (x63.set (Int.toNat i_s12_l39) x45) (IntKind.i64.wrap (i_s12_l39 + 1))).bind fun x70 =>
(if (x61.2 != 0) = true then
some (.done (.inl ()))
else
((idx x6.1.1 x45).bind fun x73 =>
((idx x6.1.1 x49).bind fun x75 =>
(if (x61.1 != (x73.2.1 == x75.2.1)) = true then
some (.done (.inl ()))
else
some (.next (((((d13_l39.set (Int.toNat t65__s65_l37) (x51.set (Int.toNat i_s12_l39) x49)).set (Int.toNat t65__s65_l37) ((x51.set (Int.toNat i_s12_l39) x49).set (Int.toNat (IntKind.i64.wrap (i_s12_l39 + 1))) x45)).set (Int.toNat t65__s65_l37) (x63.set (Int.toNat i_s12_l39) x45)).set (Int.toNat t65__s65_l37) ((x63.set (Int.toNat i_s12_l39) x45).set (Int.toNat (IntKind.i64.wrap (i_s12_l39 + 1))) x49)), IntKind.i64.wrap (i_s12_l39 + 1))))))))))))))))))))
else
some (.done (.inr d13_l39))))

def law11_JobSorts_L37 (x6 : ((List (Int × Int × Int × Int)) × Int) × Int) (d13_x15 : List (List Int)) (s : (List (List Int)) × Int) : Option (Step ((List (List Int)) × Int) (Unit ⊕ Unit)) :=
match s with
| (d13_l37, t65__s65_l37) =>
(if (decide (t65__s65_l37 < ((d13_x15).length : Int))) = true then
((loop (law11_JobSorts_L39 x6 t65__s65_l37) (d13_l37, 0)).bind fun d => match d with
| (.inl _) => some (.done (.inl ()))
| (.inr d13_x3901) => some (.next (d13_x3901, IntKind.i64.wrap (t65__s65_l37 + 1))))
else
some (.done (.inr ())))

def law11_JobSorts_L15 (x6 : ((List (Int × Int × Int × Int)) × Int) × Int) (s : (List (List Int)) × Int) : Option (Step ((List (List Int)) × Int) (List (List Int))) :=
match s with
| (d13_l15, b_s6_l15) =>
(if (decide (b_s6_l15 < 32)) = true then
((loop (law11_JobSorts_L17 x6 b_s6_l15) (d13_l15, 0)).bind fun d => match d with
| d13_x17 => some (.next (d13_x17, IntKind.i64.wrap (b_s6_l15 + 1))))
else
some (.done d13_l15))

def law11_JobSorts (p0 : List Int) : Option Bool :=
((gen_New p0).bind fun x2 =>
((gen_Maker_Job x2.1 x2.2 14).bind fun x6 =>
(if (0 : Int) ≤ 3 ∧ (3 : Int) ≤ 4294967296 then
((loop (law11_JobSorts_L15 x6) ((List.replicate (Int.toNat 3) ([] : List Int)), 0)).bind fun d => match d with
| d13_x15 => ((job_Sorted x6.1.1 x6.1.2 d13_x15).bind fun x34 =>
(if (x34.2 != 0) = true then
some false
else
(if (!x34.1) = true then
some false
else
((loop (law11_JobSorts_L37 x6 d13_x15) (d13_x15, 0)).bind fun d => match d with
| (.inl _) => some false
| (.inr _) => ((law11_sane).bind fun x77 =>
some x77))))))
else none)))

theorem law11_JobSorts_w (a_p0 : Option Addr) (c_p0 : Nat) (p0 : List Int) (r : Bool) (w : World) (M : List Nat) (hms : MS w [M]) (hs_p0 : SlR (eInt .i64) w (fl [M]) a_p0 c_p0 p0) (h : law11_JobSorts p0 = some r) : CallVC Try.prog 4 [.slice a_p0 (p0).length c_p0] w fun v w' => v = .bool r ∧ Ev [] w w' := by
  refine calls_vc hmx Try.func4 (by kernel_rfl) rfl (rs := [.tmp 2]) rfl (by kernel_rfl) (args := [.slice a_p0 (p0).length c_p0]) rfl ?_
  have hev : Ev [] w w := Ev.refl _ _
  have hfr : FR w.heap.size [] := FR.nil _
  refine c_seq (c_plain ?_)
  refine x_pure 1 [(2, .bool false)] _ _ _ (by kernel_rfl) ?_
  refine x_end rfl (k_then ?_)
  refine c_seq (c_plain ?_)
  refine x_pure 1 [(17, .slice a_p0 (p0).length c_p0)] _ _ _ (by kernel_rfl) ?_
  obtain ⟨x2, hx, h⟩ := bind_some h
  have hpk : MS w ([] ++ [M]) := hms.pick [some 0] _ rfl
  have hsb0 : ∀ x ∈ fl ([] ++ [M]), x ∈ fl [M] := pick_sub [some 0] _ rfl
  have hsb : ∀ x ∈ fl ([] ++ [(fl [M])]), x ∈ fl [M] := fun x hx => hsb0 x (fl_unfold x hx)
  have hcall := gen_New_w a_p0 c_p0 p0 _ w (fl [M]) (MS.fold (P := []) hpk) (hs_p0.sub hsb) hx
  refine x_call 13 #[] #[] [.slice a_p0 (p0).length c_p0] _ rfl rfl rfl rfl hcall ?_
  rintro v w3 ⟨b0_3, a1_3, c1_3, rfl, he3, hmn3, hfn3, hf3_1, hf3_2⟩
  clear hcall hx
  refine ⟨.inl rfl, ?_⟩
  have hpk2 : MS w ([] ++ [M]) := hms.pick [some 0] _ rfl
  have hsb2 : ∀ x ∈ fl ([] ++ [M]), x ∈ fl [M] := pick_sub [some 0] _ rfl
  have hst0 := Stp.call (LS := [M]) (res := [[b0_3]]) (par := []) (R := [M]) he3 (fun b hb => hsb2 b (fl_left' (P := []) b hb)) hfn3 (NP.init _ _) (fun x hx => hsb2 x (fl_right' (P := []) x hx))
  have hsn : ∀ x ∈ fl [[b0_3], M], x ∈ fl ([[b0_3]] ++ ([] ++ [M])) := pick_sub [some 0, some 1] _ rfl
  have hst := hst0.res hsn
  replace hs_p0 := hs_p0.step hst
  replace hms : MS w3 [[b0_3], M] := (MS.call (P := []) (R := [M]) (res := [[b0_3]]) (par := []) hpk2 he3 hmn3 hfn3 (NP.init _ _)).pick [some 0, some 1] _ rfl
  have hfr2 : FR w.heap.size [[b0_3]] := (FR.cons (fun b hb => Nat.le_trans hev.size (hfn3.at 0 rfl b hb)) (FR.nil _))
  replace hev := hev.ext he3
  replace hfr := hfr2
  clear hfr2
  have hsp : ∀ x ∈ fl [[b0_3], M], x ∈ fl ([[b0_3]] ++ ([] ++ [(fl [M])])) := fun x hx => fl_tot (res := [[b0_3]]) (par := []) (R := [M]) x (hsn x hx)
  replace hf3_2 := hf3_2.sub hsp
  clear hpk hsb hsb0 hpk2 hsb2 hst0 hsn hst
  refine x_pure 1 [(3, .pointer (some ⟨b0_3, 0, none⟩))] _ _ _ (by kernel_rfl) ?_
  refine x_end rfl (k_then ?_)
  refine c_seq (c_plain ?_)
  refine x_pure 1 [(19, .pointer (some ⟨b0_3, 0, none⟩))] _ _ _ (by kernel_rfl) ?_
  obtain ⟨x6, hx, h⟩ := bind_some h
  have hpk : MS w3 ([[b0_3]] ++ [M]) := hms.pick [some 0, some 1] _ rfl
  have hsb0 : ∀ x ∈ fl ([[b0_3]] ++ [M]), x ∈ fl [[b0_3], M] := pick_sub [some 0, some 1] _ rfl
  have hsb : ∀ x ∈ fl ([[b0_3]] ++ [(fl [M])]), x ∈ fl [[b0_3], M] := fun x hx => hsb0 x (fl_unfold x hx)
  have hcall := gen_Maker_Job_w b0_3 a1_3 c1_3 x2.1 x2.2 14 _ w3 (fl [M]) (hpk.fold (P := [[b0_3]])) (hf3_2.sub hsb) hf3_1 hx
  refine x_call 14 #[] #[] [.pointer (some ⟨b0_3, 0, none⟩), .int .i64 14] _ rfl rfl rfl rfl hcall ?_
  rintro v w7 ⟨a0_7, c0_7, rfl, he7, hp7_0, hmn7, hfn7, hf7_1⟩
  clear hcall hx
  refine ⟨.inl rfl, ?_⟩
  have hpk2 : MS w3 ([[b0_3]] ++ [M]) := hms.pick [some 0, some 1] _ rfl
  have hsb2 : ∀ x ∈ fl ([[b0_3]] ++ [M]), x ∈ fl [[b0_3], M] := pick_sub [some 0, some 1] _ rfl
  have hst0 := Stp.call (LS := [[b0_3], M]) (res := [blk a0_7]) (par := [[b0_3]]) (R := [M]) he7 (fun b hb => hsb2 b (fl_left' (P := [[b0_3]]) b hb)) hfn7 (NP.init _ _) (fun x hx => hsb2 x (fl_right' (P := [[b0_3]]) x hx))
  have hsn : ∀ x ∈ fl [blk a0_7, [b0_3], M], x ∈ fl ([blk a0_7] ++ ([[b0_3]] ++ [M])) := pick_sub [some 0, some 1, some 2] _ rfl
  have hst := hst0.res hsn
  replace hf3_2 := hf3_2.step hst
  replace hms : MS w7 [blk a0_7, [b0_3], M] := (MS.call (P := [[b0_3]]) (R := [M]) (res := [blk a0_7]) (par := [[b0_3]]) hpk2 he7 hmn7 hfn7 (NP.init _ _)).pick [some 0, some 1, some 2] _ rfl
  have hPf : ∀ b ∈ fl [[b0_3]], w.heap.size ≤ b := FR.mem (ls := [[b0_3]]) (hfr.pick [some 0] _ rfl)
  have hfr2 : FR w.heap.size [blk a0_7, [b0_3]] := (FR.cons (fun b hb => Nat.le_trans hev.size (hfn7.at 0 rfl b hb)) (FR.cons (hfr.at 0 rfl) (FR.nil _)))
  replace hev := hev.then he7 (fun b hb => .inr (hPf b hb))
  replace hfr := hfr2
  clear hfr2
  replace hf3_1 := hp7_0
  replace hf7_1 := OwnS.plain (M' := fl [blk a0_7, [b0_3], M]) (plain_prod (plain_int _) (plain_prod (plain_int _) (plain_prod (plain_int _) (plain_int _)))) hf7_1
  clear hpk hsb hsb0 hpk2 hsb2 hst0 hsn hst
  have hpk : MS w7 [[b0_3], M] := hms.pick [some 1, some 2] _ rfl
  have hsu : ∀ x ∈ fl [[b0_3], M], x ∈ fl [blk a0_7, [b0_3], M] := pick_sub [some 1, some 2] _ rfl
  replace hf3_2 := hf3_2.sub hsu
  replace hf7_1 := hf7_1.ro hsu (pick_out hms 0 rfl [some 1, some 2] [[b0_3], M] rfl rfl)
  replace hms := hpk
  replace hfr : FR w.heap.size [[b0_3]] := hfr.pick [some 1] _ rfl
  clear hpk hsu
  refine x_alloc (z := .agg #[.slice none 0 0, .int .i64 0]) rfl rfl (by kernel_rfl) (fun b9 w9 hq9 hb9 he9 hz9 => ?_)
  replace hb9 : w9.heap[b9]? = some (.cells #[.slice none 0 0, .int .i64 0] 24 (0, 0)) := hb9
  refine ⟨.inl rfl, ?_⟩
  have hst := Stp.box (ls := [[b0_3], M]) he9 hq9
  replace hf3_1 := he9.box hf3_1 nn
  replace hf3_2 := hf3_2.step hst
  replace hf7_1 := hf7_1.step hst
  replace hms := hms.box he9 hq9 hb9
  replace hfr := hfr.box hev.size hq9
  replace hev := hev.ext he9
  obtain ⟨w11, hr11, hb11, he11⟩ := store_boxagg 0 [.slice a0_7 (x6.1.1).length c0_7, .int .i64 x6.1.2] #[.slice a0_7 (x6.1.1).length c0_7, .int .i64 x6.1.2] tagg24 hb9 rfl rfl rfl
  refine x_store w11 (xv := .pointer (some ⟨b9, 0, none⟩)) (yv := .agg #[.slice a0_7 (x6.1.1).length c0_7, .int .i64 x6.1.2]) rfl rfl rfl rfl hr11 ?_
  refine ⟨.inl rfl, ?_⟩
  have hst := Stp.ev' (ls := [[b9], [b0_3], M]) he11 (mem_flat 0 rfl)
  replace hf3_1 := he11.box hf3_1 (hms.apart 1 0 rfl rfl rfl _ (List.mem_singleton.2 rfl))
  replace hf3_2 := hf3_2.step hst
  replace hf7_1 := hf7_1.step hst
  replace hms := hms.ev he11
  replace hev := hev.then he11 (fun b hb => .inr (hfr.at 0 rfl b hb))
  replace hb9 := hb11
  refine x_end rfl (k_then ?_)
  refine c_seq (c_plain ?_)
  have hg := guard_l h
  replace h := guard_r h
  obtain ⟨a12, c12, w12, B12, hr12, he12, hn12, ho12⟩ := OwnR.mk (P := Try.prog) (T := 3) (eInt .i64) tel37 w11 3 hg.1 hg.2
  refine x_makeSlice _ w12 (xv := .int .i64 3) (yv := .int .i64 3) rfl rfl rfl rfl hr12 ?_
  refine ⟨.inl rfl, ?_⟩
  have hst := Stp.push (ls := [[b9], [b0_3], M]) (l := B12) he12 (fun _ h => by cases h) (fun b hb => (hn12 b hb).1)
  replace hf3_1 := he12.box hf3_1 nn
  replace hf3_2 := hf3_2.step hst
  replace hf7_1 := hf7_1.step hst
  replace hb9 := he12.box hb9 nn
  replace hms := hms.push he12 hn12
  replace hfr := hfr.push (fun b hb => Nat.le_trans hev.size (hn12 b hb).1)
  replace hev := hev.ext he12
  refine x_pure 1 [(5, .slice a12 ((List.replicate (Int.toNat 3) ([] : List Int))).length c12)] _ _ _ (by kernel_rfl) ?_
  refine x_end rfl (k_then ?_)
  refine c_seq ?_
  refine c_seq (c_plain ?_)
  refine x_pure 1 [(6, .int .i64 0)] _ _ _ (by kernel_rfl) ?_
  refine x_end rfl (k_then ?_)
  refine c_block ?_
  have hpk : MS w12 [[b9], B12, M] := hms.pick [some 1, some 0, some 3] _ rfl
  have hsu : ∀ x ∈ fl [[b9], B12, M], x ∈ fl [B12, [b9], [b0_3], M] := pick_sub [some 1, some 0, some 3] _ rfl
  replace hf7_1 := hf7_1.sub hsu
  replace hms := hpk
  replace hfr : FR w.heap.size [[b9], B12] := hfr.pick [some 1, some 0] _ rfl
  clear hpk hsu
  obtain ⟨d15, hd15, h15⟩ := bind_some h
  obtain ⟨m15, hd15⟩ := loop_some hd15
  refine c_loop (loop_rule hmx (σ := Nat × (List (List Int)) × Int × List Nat) (fun s => match s with | (_, d13_l15, b_s6_l15, B13_l15) => [(4, .pointer (some ⟨b9, 0, none⟩)), (5, .slice a12 (d13_l15).length c12), (6, .int .i64 b_s6_l15)]) (fun s w' => match s with | (m, d13_l15, b_s6_l15, B13_l15) => loopN (law11_JobSorts_L15 x6) m (d13_l15, b_s6_l15) = some d15 ∧ Ev [] w w' ∧ MS w' [[b9], B13_l15, M] ∧ FR w.heap.size [[b9], B13_l15] ∧ SlR (eProd (eInt .i64) (eProd (eInt .i64) (eProd (eInt .i64) (eInt .i64)))) w' (fl [[b9], B13_l15, M]) a0_7 c0_7 x6.1.1 ∧ w'.heap[b9]? = some (.cells #[.slice a0_7 (x6.1.1).length c0_7, .int .i64 x6.1.2] 24 (0, 0)) ∧ OwnR (eInt .i64) 3 27 w' B13_l15 a12 c12 d13_l15 none) (fun s => s.1) (m15, (List.replicate (Int.toNat 3) ([] : List Int)), 0, B12) ⟨rfl, rfl, rfl, trivial⟩ ⟨hd15, hev, hms, hfr, hf7_1, hb9, ho12⟩ ?_)
  rintro ⟨m15, d13_l15, b_s6_l15, B13_l15⟩ J wl15 ⟨hn15, hev, hms, hfr, hf7_1, hb9, ho12⟩
  rcases m15 with _ | m15
  · exact (loopN_zero hn15).elim
  obtain ⟨t15, h, hn15⟩ := bind_some hn15
  refine c_seq ?_
  refine c_seq (c_plain ?_)
  refine x_pure 2 [(22, .int .i64 b_s6_l15), (23, .bool (decide (b_s6_l15 < 32)))] _ _ _ (by kernel_rfl) ?_
  refine x_end rfl (k_then ?_)
  refine c_norm [(4, .pointer (some ⟨b9, 0, none⟩)), (5, .slice a12 (d13_l15).length c12), (6, .int .i64 b_s6_l15), (23, .bool (decide (b_s6_l15 < 32)))] ⟨rfl, rfl, rfl, rfl, trivial⟩ (fun J => ?_)
  refine c_cond (decide (b_s6_l15 < 32)) rfl (fun hb => ?_) (fun hb => ?_)
  · replace h := ite_t hb h
    refine c_skip ?_
    refine k_then ?_
    refine c_seq ?_
    refine c_block ?_
    refine c_seq (c_plain ?_)
    refine x_fieldAddr (xv := .pointer (some ⟨b9, 0, none⟩)) (.pointer (some ⟨b9, 0, none⟩)) rfl rfl rfl (reads_field tfld24_0 _ _) ?_
    refine x_load (xv := .pointer (some ⟨b9, 0, none⟩)) (.slice a0_7 (x6.1.1).length c0_7) rfl rfl rfl (reads_box tcell22 hb9 nn 0 _ rfl) ?_
    refine x_len (vs := [.slice a0_7 (x6.1.1).length c0_7]) (.int .i64 ((x6.1.1).length : Int)) rfl rfl rfl (reads_len tsl22 _ _ _ _ _) ?_
    refine x_pure 1 [(29, .int .i64 0)] _ _ _ (by kernel_rfl) ?_
    refine x_end rfl (k_then ?_)
    refine c_block ?_
    obtain ⟨d17, hd17, h17⟩ := bind_some h
    obtain ⟨m17, hd17⟩ := loop_some hd17
    refine c_loop (loop_rule hmx (σ := Nat × (List (List Int)) × Int × List Nat) (fun s => match s with | (_, d13_l17, t29__s29_l17, B13_l17) => [(4, .pointer (some ⟨b9, 0, none⟩)), (5, .slice a12 (d13_l17).length c12), (6, .int .i64 b_s6_l15), (27, .slice a0_7 (x6.1.1).length c0_7), (28, .int .i64 ((x6.1.1).length : Int)), (29, .int .i64 t29__s29_l17)]) (fun s w' => match s with | (m, d13_l17, t29__s29_l17, B13_l17) => loopN (law11_JobSorts_L17 x6 b_s6_l15) m (d13_l17, t29__s29_l17) = some d17 ∧ Ev [] w w' ∧ MS w' [[b9], B13_l17, M] ∧ FR w.heap.size [[b9], B13_l17] ∧ SlR (eProd (eInt .i64) (eProd (eInt .i64) (eProd (eInt .i64) (eInt .i64)))) w' (fl [[b9], B13_l17, M]) a0_7 c0_7 x6.1.1 ∧ w'.heap[b9]? = some (.cells #[.slice a0_7 (x6.1.1).length c0_7, .int .i64 x6.1.2] 24 (0, 0)) ∧ OwnR (eInt .i64) 3 27 w' B13_l17 a12 c12 d13_l17 none) (fun s => s.1) (m17, d13_l15, 0, B13_l15) ⟨rfl, rfl, rfl, rfl, rfl, rfl, trivial⟩ ⟨hd17, hev, hms, hfr, hf7_1, hb9, ho12⟩ ?_)
    rintro ⟨m17, d13_l17, t29__s29_l17, B13_l17⟩ J wl17 ⟨hn17, hev, hms, hfr, hf7_1, hb9, ho12⟩
    rcases m17 with _ | m17
    · exact (loopN_zero hn17).elim
    obtain ⟨t17, h, hn17⟩ := bind_some hn17
    refine c_seq (c_plain ?_)
    refine x_pure 1 [(30, .bool (decide (t29__s29_l17 < ((x6.1.1).length : Int))))] _ _ _ (by kernel_rfl) ?_
    refine x_end rfl (k_then ?_)
    refine c_norm [(4, .pointer (some ⟨b9, 0, none⟩)), (5, .slice a12 (d13_l17).length c12), (6, .int .i64 b_s6_l15), (27, .slice a0_7 (x6.1.1).length c0_7), (28, .int .i64 ((x6.1.1).length : Int)), (29, .int .i64 t29__s29_l17), (30, .bool (decide (t29__s29_l17 < ((x6.1.1).length : Int))))] ⟨rfl, rfl, rfl, rfl, rfl, rfl, rfl, trivial⟩ (fun J => ?_)
    refine c_seq ?_
    refine c_cond (decide (t29__s29_l17 < ((x6.1.1).length : Int))) rfl (fun hb => ?_) (fun hb => ?_)
    · replace h := ite_t hb h
      refine c_skip ?_
      refine k_then ?_
      refine c_seq ?_
      refine c_block ?_
      refine c_seq (c_plain ?_)
      refine x_pure 1 [(31, .int .i64 t29__s29_l17)] _ _ _ (by kernel_rfl) ?_
      obtain ⟨x19, hx19, h⟩ := bind_some h
      obtain ⟨ad19, cs19, hr19, hc19, hR⟩ := reads_index (Mo := []) tsl22 hf7_1 hx19
      obtain ⟨_, _, rfl, rfl, ⟨_, _, rfl, rfl, ⟨_, _, rfl, rfl, rfl⟩⟩⟩ := hR
      refine x_indexAddr (xv := .slice a0_7 (x6.1.1).length c0_7) (yv := .int .i64 t29__s29_l17) (.pointer (some ad19)) rfl rfl rfl rfl hr19 ?_
      refine x_load (xv := .pointer (some ad19)) (.agg #[.int .i64 x19.1, .int .i64 x19.2.1, .int .i64 x19.2.2.1, .int .i64 x19.2.2.2]) rfl rfl rfl (reads_agg tagg26 hc19 (fun _ h => by cases h)) ?_
      refine x_alloc (z := .agg #[.int .i64 0, .int .i64 0, .int .i64 0, .int .i64 0]) rfl rfl (by kernel_rfl) (fun b21 w21 hq21 hb21 he21 hz21 => ?_)
      replace hb21 : w21.heap[b21]? = some (.cells #[.int .i64 0, .int .i64 0, .int .i64 0, .int .i64 0] 26 (0, 0)) := hb21
      refine ⟨.inl rfl, ?_⟩
      have hst := Stp.box (ls := [[b9], B13_l17, M]) he21 hq21
      replace hb9 := he21.box hb9 nn
      replace hf7_1 := hf7_1.step hst
      replace ho12 := ho12.step (plain_int _) he21 nn2
      replace hc19 := hc19.step hst
      replace hms := hms.box he21 hq21 hb21
      replace hfr := hfr.box hev.size hq21
      replace hev := hev.ext he21
      refine x_pure 1 [(7, .int .i64 t29__s29_l17)] _ _ _ (by kernel_rfl) ?_
      obtain ⟨w23, hr23, hb23, he23⟩ := store_boxagg 0 [.int .i64 x19.1, .int .i64 x19.2.1, .int .i64 x19.2.2.1, .int .i64 x19.2.2.2] #[.int .i64 x19.1, .int .i64 x19.2.1, .int .i64 x19.2.2.1, .int .i64 x19.2.2.2] tagg26 hb21 rfl rfl rfl
      refine x_store w23 (xv := .pointer (some ⟨b21, 0, none⟩)) (yv := .agg #[.int .i64 x19.1, .int .i64 x19.2.1, .int .i64 x19.2.2.1, .int .i64 x19.2.2.2]) rfl rfl rfl rfl hr23 ?_
      refine ⟨.inl rfl, ?_⟩
      have hst := Stp.ev' (ls := [[b21], [b9], B13_l17, M]) he23 (mem_flat 0 rfl)
      replace hb9 := he23.box hb9 (hms.apart 1 0 rfl rfl rfl _ (List.mem_singleton.2 rfl))
      replace hf7_1 := hf7_1.step hst
      replace ho12 := ho12.step (plain_int _) he23 (hms.apart 2 0 rfl rfl rfl)
      replace hc19 := hc19.step hst
      replace hms := hms.ev he23
      replace hev := hev.then he23 (fun b hb => .inr (hfr.at 0 rfl b hb))
      replace hb21 := hb23
      refine x_end rfl (k_then ?_)
      refine c_seq (c_plain ?_)
      refine x_fieldAddr (xv := .pointer (some ⟨b21, 0, none⟩)) (.pointer (some ⟨b21, 1, none⟩)) rfl rfl rfl (reads_field tfld26_1 _ _) ?_
      refine x_load (xv := .pointer (some ⟨b21, 1, none⟩)) (.int .i64 x19.2.1) rfl rfl rfl (reads_box tcell3 hb21 nn 1 _ rfl) ?_
      refine x_pure 2 [(36, .int .i64 b_s6_l15), (37, .bool (x19.2.1 == b_s6_l15))] _ _ _ (by kernel_rfl) ?_
      refine x_end rfl (k_then ?_)
      refine c_cond (x19.2.1 == b_s6_l15) rfl (fun hb => ?_) (fun hb => ?_)
      · replace h := ite_t hb h
        refine c_drawn (innr a12 B13_l17) [(0, false), (1, false), (2, false), (3, false), (4, false), (5, false), (6, false), (7, false), (8, false), (9, false), (10, false), (11, true), (12, true)] _ (by kernel_rfl) rfl ?_
        have hst := Stp.ext (ls := [[b21], [b9], B13_l17, M]) (Ev.drew w23)
        replace hb9 := (Ev.drew w23).box hb9 nn
        replace hf7_1 := hf7_1.step hst
        replace ho12 := ho12.step (plain_int _) (Ev.drew w23) nn2
        replace hb21 := (Ev.drew w23).box hb21 nn
        replace hms := hms.ev (Ev.drew w23)
        replace hev := hev.ext (Ev.drew w23)
        refine x_pure 1 [(38, .slice a12 (d13_l17).length c12)] _ _ _ (by kernel_rfl) ?_
        refine x_fieldAddr (xv := .pointer (some ⟨b21, 0, none⟩)) (.pointer (some ⟨b21, 0, none⟩)) rfl rfl rfl (reads_field tfld26_0 _ _) ?_
        refine x_load (xv := .pointer (some ⟨b21, 0, none⟩)) (.int .i64 x19.1) rfl rfl rfl (reads_box tcell3 hb21 ((fun x hx h => hms.apart 0 2 rfl rfl rfl x hx (innr_sub _ h)) _ (List.mem_singleton.2 rfl)) 0 _ rfl) ?_
        refine x_pure 1 [(41, .slice a12 (d13_l17).length c12)] _ _ _ (by kernel_rfl) ?_
        refine x_fieldAddr (xv := .pointer (some ⟨b21, 0, none⟩)) (.pointer (some ⟨b21, 0, none⟩)) rfl rfl rfl (reads_field tfld26_0 _ _) ?_
        refine x_load (xv := .pointer (some ⟨b21, 0, none⟩)) (.int .i64 x19.1) rfl rfl rfl (reads_box tcell3 hb21 ((fun x hx h => hms.apart 0 2 rfl rfl rfl x hx (innr_sub _ h)) _ (List.mem_singleton.2 rfl)) 0 _ rfl) ?_
        obtain ⟨x24, hx24, h⟩ := bind_some h
        obtain ⟨g24, ai24, ci24, hr24, hv24⟩ := OwnR.view (P := Try.prog) (Mo := (innr a12 B13_l17)) tsl37 ho12 hx24
        refine x_indexAddr (xv := .slice a12 (d13_l17).length c12) (yv := .int .i64 x19.1) (.pointer (some ⟨g24, (Int.toNat x19.1), none⟩)) rfl rfl rfl rfl hr24 ?_
        refine x_load (xv := .pointer (some ⟨g24, (Int.toNat x19.1), none⟩)) (.slice ai24 (x24).length ci24) rfl rfl rfl (RView.loadI tcell27 hv24) ?_
        refine x_pure 1 [(46, .int .i64 t29__s29_l17)] _ _ _ (by kernel_rfl) ?_
        refine x_buildSlice (vs := [(0, .int .i64 t29__s29_l17)]) #[.int .i64 t29__s29_l17] 3 rfl rfl rfl (by kernel_rfl) (fun b26 w26 hq26 hb26 he26 hz26 => ?_)
        refine ⟨.inr (he26.nil), ?_⟩
        have hms0 := hms
        have hst := Stp.ext (ls := [[b21], [b9], B13_l17, M]) he26
        replace hb9 := he26.box hb9 nn
        replace hf7_1 := hf7_1.step hst
        replace ho12 := ho12.step (plain_int _) he26 nn2
        replace hb21 := he26.box hb21 nn
        replace hv24 := hv24.step (plain_int _) he26 nn2
        replace hms := hms.ev he26
        replace hev := hev.ext he26
        have hs26 : SlR (eInt .i64) w26 (fl [[b21], [b9], B13_l17, M]) (some ⟨b26, 0, none⟩) 1 ([t29__s29_l17]) := ro_of_box hms0 hq26 hb26 rfl rfl (cells_at (cs := [.int .i64 t29__s29_l17]) (CellsOf.cons (c := [.int .i64 t29__s29_l17]) rfl CellsOf.nil))
        clear hb26 hms0
        have hin28 := RView.inner hv24 ho12
        obtain ⟨B28, hR28, ho28, hs1, hs2, hs3⟩ := OwnR.opn ho12 hv24
        replace ho12 := hR28
        have hms2 := hms.split 2 rfl hs2 hs1 hs3
        have hsu : ∀ x ∈ fl [blk ai24, [b21], [b9], B28, M], x ∈ fl [[b21], [b9], B13_l17, M] := split_sub (ls := [[b21], [b9], B13_l17, M]) 2 rfl hs2 hs1
        replace hms : MS w26 [blk ai24, [b21], [b9], B28, M] := hms2
        replace hfr : FR w.heap.size [blk ai24, [b21], [b9], B28] := (hfr.upd 2 rfl hev.size (fun b hb => .inl (hs1 b hb))).push (fun b hb => hfr.at 2 rfl b (hs2 b hb))
        replace hf7_1 := hf7_1.sub hsu
        replace hs26 := hs26.sub hsu
        replace ho28 := OwnS.plain (M' := fl [blk ai24, [b21], [b9], B28, M]) (plain_int _) ho28
        have hg28 := hv24.eq
        have hx28 := hv24.at_
        clear hv24 hms2 hs1 hs2 hs3 hsu
        have hg := guard_l h
        replace h := guard_r h
        obtain ⟨a30, c30, w30, hr30, he30, hn30, hm30, hw30⟩ := own_appendN tel27 27 ho28 (mem_flat 0 rfl) hs26 hg
        refine x_builtin (vs := [.slice ai24 (x24).length ci24, .slice (some ⟨b26, 0, none⟩) ([t29__s29_l17]).length 1]) _ w30 rfl rfl rfl rfl (run_value _ _ _ _ hr30) ?_
        refine ⟨.inr (he30.sub hin28), ?_⟩
        have hst : Stp (fl [blk ai24, [b21], [b9], B28, M]) w26 (fl [blk a30, [b21], [b9], B28, M]) w30 := Stp.upd 0 he30 rfl (fun b hb => (hn30 b hb).1)
        replace hb9 := he30.box hb9 (hms.apart 2 0 rfl rfl rfl _ (List.mem_singleton.2 rfl))
        replace hf7_1 := hf7_1.step hst
        replace ho12 := ho12.step (plain_int _) he30 (hms.apart 3 0 rfl rfl rfl)
        replace hb21 := he30.box hb21 (hms.apart 1 0 rfl rfl rfl _ (List.mem_singleton.2 rfl))
        replace hs26 := hs26.step hst
        replace hms : MS w30 [blk a30, [b21], [b9], B28, M] := hms.upd 0 he30 rfl hn30
        have hfr2 : FR w.heap.size [blk a30, [b21], [b9], B28] := hfr.upd 0 rfl hev.size (fun b hb => (hn30 b hb).1)
        replace hev := hev.then he30 (fun b hb => .inr (hfr.at 0 rfl b hb))
        replace hfr := hfr2
        clear hfr2
        replace ho28 := hw30 (fl [blk a30, [b21], [b9], B28, M]) hst.new
        clear hw30
        obtain ⟨x31, hx31, h⟩ := bind_some h
        obtain ⟨g31, hg31, hr31, hy31⟩ := OwnR.addr (P := Try.prog) (Mo := []) tsl37 ho12 hx31
        refine x_indexAddr (xv := .slice a12 (d13_l17).length c12) (yv := .int .i64 x19.1) (.pointer (some ⟨g31, (Int.toNat x19.1), none⟩)) rfl rfl rfl rfl hr31 ?_
        obtain ⟨w33, B33, hr33, he33, hn33, hR33⟩ := OwnR.cls (P := Try.prog) (plain_int _) tcell27 ho12 hg31 hy31 ho28 (hms.apart 0 3 rfl rfl rfl) (hms.ltat 3 rfl)
        refine x_store w33 (xv := .pointer (some ⟨g31, (Int.toNat x19.1), none⟩)) (yv := .slice a30 ((x24 ++ [t29__s29_l17])).length c30) rfl rfl rfl rfl hr33 ?_
        refine ⟨.inl rfl, ?_⟩
        have hms2 := hms.merge (C := blk a30 ++ B28) 0 3 rfl rfl (fun x hx => List.mem_append.1 hx)
        replace hfr : FR w.heap.size [[b21], [b9], blk a30 ++ B28] := (FR.cons (hfr.at 1 rfl) (FR.cons (hfr.at 2 rfl) (FR.cons (fun b hb => (List.mem_append.1 hb).elim (hfr.at 0 rfl b) (hfr.at 3 rfl b)) (FR.nil _))))
        have hsu : ∀ x ∈ fl [[b21], [b9], blk a30 ++ B28, M], x ∈ fl [blk a30, [b21], [b9], B28, M] := merge_sub (ls := [blk a30, [b21], [b9], B28, M]) (C := blk a30 ++ B28) 0 3 rfl rfl (fun x hx => List.mem_append.1 hx)
        replace hms : MS w30 [[b21], [b9], blk a30 ++ B28, M] := hms2
        replace hf7_1 := hf7_1.sub hsu
        replace hs26 := hs26.sub hsu
        clear hms2 hsu
        have hst : Stp (fl [[b21], [b9], blk a30 ++ B28, M]) w30 (fl [[b21], [b9], B33, M]) w33 := Stp.upd 2 he33 rfl (fun b hb => (hn33 b hb).1)
        replace hb9 := he33.box hb9 (hms.apart 1 2 rfl rfl rfl _ (List.mem_singleton.2 rfl))
        replace hf7_1 := hf7_1.step hst
        replace hb21 := he33.box hb21 (hms.apart 0 2 rfl rfl rfl _ (List.mem_singleton.2 rfl))
        replace hs26 := hs26.step hst
        replace hms : MS w33 [[b21], [b9], B33, M] := hms.upd 2 he33 rfl hn33
        have hfr2 : FR w.heap.size [[b21], [b9], B33] := hfr.upd 2 rfl hev.size (fun b hb => (hn33 b hb).1)
        replace hev := hev.then he33 (fun b hb => .inr (hfr.at 2 rfl b hb))
        replace hfr := hfr2
        clear hfr2
        replace ho12 := hR33
        have hsl : (Value.slice a12 (d13_l17).length c12) = (Value.slice a12 ((d13_l17.set (Int.toNat x19.1) (x24 ++ [t29__s29_l17]))).length c12) := by first | (rw [List.length_set]; done) | simp only [List.length_set]
        try rw [hsl]
        clear hsl
        refine x_end rfl ?_
        refine k_block ?_
        refine k_then ?_
        refine c_norm [(4, .pointer (some ⟨b9, 0, none⟩)), (5, .slice a12 ((d13_l17.set (Int.toNat x19.1) (x24 ++ [t29__s29_l17]))).length c12), (6, .int .i64 b_s6_l15), (27, .slice a0_7 (x6.1.1).length c0_7), (28, .int .i64 ((x6.1.1).length : Int)), (29, .int .i64 t29__s29_l17)] ⟨rfl, rfl, rfl, rfl, rfl, rfl, trivial⟩ (fun J => ?_)
        refine c_plain ?_
        refine x_pure 2 [(50, .int .i64 (IntKind.i64.wrap (t29__s29_l17 + 1))), (29, .int .i64 (IntKind.i64.wrap (t29__s29_l17 + 1)))] _ _ _ (by kernel_rfl) ?_
        refine x_end rfl ?_
        have hx := some_inj h
        subst hx
        have hpk : MS w33 [[b9], B33, M] := hms.pick [some 1, some 2, some 3] _ rfl
        have hsu : ∀ x ∈ fl [[b9], B33, M], x ∈ fl [[b21], [b9], B33, M] := pick_sub [some 1, some 2, some 3] _ rfl
        replace hf7_1 := hf7_1.sub hsu
        replace hms := hpk
        replace hfr : FR w.heap.size [[b9], B33] := hfr.pick [some 1, some 2] _ rfl
        clear hpk hsu
        exact k_then ⟨(m17, (d13_l17.set (Int.toNat x19.1) (x24 ++ [t29__s29_l17])), IntKind.i64.wrap (t29__s29_l17 + 1), B33), ⟨rfl, rfl, rfl, rfl, rfl, rfl, trivial⟩, ⟨hn17, hev, hms, hfr, hf7_1, hb9, ho12⟩, Nat.lt_succ_self _⟩
      replace h := ite_f hb h
      refine c_skip ?_
      refine k_block ?_
      refine k_then ?_
      refine c_plain ?_
      refine x_pure 2 [(50, .int .i64 (IntKind.i64.wrap (t29__s29_l17 + 1))), (29, .int .i64 (IntKind.i64.wrap (t29__s29_l17 + 1)))] _ _ _ (by kernel_rfl) ?_
      refine x_end rfl ?_
      have hx := some_inj h
      subst hx
      have hpk : MS w23 [[b9], B13_l17, M] := hms.pick [some 1, some 2, some 3] _ rfl
      have hsu : ∀ x ∈ fl [[b9], B13_l17, M], x ∈ fl [[b21], [b9], B13_l17, M] := pick_sub [some 1, some 2, some 3] _ rfl
      replace hf7_1 := hf7_1.sub hsu
      replace hms := hpk
      replace hfr : FR w.heap.size [[b9], B13_l17] := hfr.pick [some 1, some 2] _ rfl
      clear hpk hsu
      exact k_then ⟨(m17, d13_l17, IntKind.i64.wrap (t29__s29_l17 + 1), B13_l17), ⟨rfl, rfl, rfl, rfl, rfl, rfl, trivial⟩, ⟨hn17, hev, hms, hfr, hf7_1, hb9, ho12⟩, Nat.lt_succ_self _⟩
    replace h := ite_f hb h
    refine c_exit ?_
    refine k_then_exit ?_
    have hx := some_inj h
    subst hx
    have hy := some_inj hn17
    subst hy
    replace h := h17
    refine k_then_exit ?_
    refine k_block_in ?_
    refine k_block ?_
    refine k_then ?_
    refine c_norm [(4, .pointer (some ⟨b9, 0, none⟩)), (5, .slice a12 (d13_l17).length c12), (6, .int .i64 b_s6_l15)] ⟨rfl, rfl, rfl, trivial⟩ (fun J => ?_)
    refine c_plain ?_
    refine x_pure 3 [(24, .int .i64 b_s6_l15), (25, .int .i64 (IntKind.i64.wrap (b_s6_l15 + 1))), (6, .int .i64 (IntKind.i64.wrap (b_s6_l15 + 1)))] _ _ _ (by kernel_rfl) ?_
    refine x_end rfl ?_
    have hx := some_inj h
    subst hx
    exact k_then ⟨(m15, d13_l17, IntKind.i64.wrap (b_s6_l15 + 1), B13_l17), ⟨rfl, rfl, rfl, trivial⟩, ⟨hn15, hev, hms, hfr, hf7_1, hb9, ho12⟩, Nat.lt_succ_self _⟩
  replace h := ite_f hb h
  refine c_exit ?_
  refine k_then_exit ?_
  have hx := some_inj h
  subst hx
  have hy := some_inj hn15
  subst hy
  replace h := h15
  refine k_then_exit ?_
  refine k_block_in ?_
  refine k_then ?_
  refine c_norm [(4, .pointer (some ⟨b9, 0, none⟩)), (5, .slice a12 (d13_l15).length c12)] ⟨rfl, rfl, trivial⟩ (fun J => ?_)
  refine c_seq (c_plain ?_)
  refine x_load (xv := .pointer (some ⟨b9, 0, none⟩)) (.agg #[.slice a0_7 (x6.1.1).length c0_7, .int .i64 x6.1.2]) rfl rfl rfl (reads_boxagg 0 [.slice a0_7 (x6.1.1).length c0_7, .int .i64 x6.1.2] tagg24 hb9 nn rfl) ?_
  refine x_pure 1 [(53, .slice a12 (d13_l15).length c12)] _ _ _ (by kernel_rfl) ?_
  obtain ⟨x34, hx, h⟩ := bind_some h
  have hpk : MS wl15 ([] ++ [[b9], M]) := hms.pick [some 0, some 2] _ rfl
  have hsb0 : ∀ x ∈ fl ([] ++ [[b9], M]), x ∈ fl [[b9], B13_l15, M] := pick_sub [some 0, some 2] _ rfl
  have hsb : ∀ x ∈ fl ([] ++ [(fl [[b9], M])]), x ∈ fl [[b9], B13_l15, M] := fun x hx => hsb0 x (fl_unfold x hx)
  have hcall := job_Sorted_w a0_7 c0_7 x6.1.1 x6.1.2 a12 c12 d13_l15 _ wl15 (fl [[b9], M]) (MS.fold (P := []) hpk) (hf7_1.sub hsb) (OwnR.ro (plain_int _) ho12 (fun b hb hb2 => pick_out hms 1 rfl [some 0, some 2] ([] ++ [[b9], M]) rfl rfl b hb (fl_unfold b hb2))) hx
  refine x_call 15 #[] #[] [.agg #[.slice a0_7 (x6.1.1).length c0_7, .int .i64 x6.1.2], .slice a12 (d13_l15).length c12] _ rfl rfl rfl rfl hcall ?_
  rintro v w35 ⟨rfl, he35⟩
  clear hcall hx
  refine ⟨.inl rfl, ?_⟩
  have hst := Stp.ext (ls := [[b9], B13_l15, M]) he35
  replace hb9 := he35.box hb9 nn
  replace hf7_1 := hf7_1.step hst
  replace ho12 := ho12.step (plain_int _) he35 nn2
  replace hms := hms.ev he35
  replace hev := hev.ext he35
  clear hpk hsb hsb0
  refine x_pure 5 [(51, .tuple #[.bool x34.1, .int .i64 x34.2]), (55, .bool x34.1), (56, .int .i64 x34.2), (9, .bool x34.1), (10, .int .i64 x34.2)] _ _ _ (by kernel_rfl) ?_
  refine x_end rfl (k_then ?_)
  refine c_seq ?_
  refine c_seq (c_plain ?_)
  refine x_pure 3 [(57, .int .i64 x34.2), (58, .bool (x34.2 != 0)), (59, .bool (x34.2 != 0))] _ _ _ (by kernel_rfl) ?_
  refine x_split 59 (x34.2 != 0) rfl (fun hb => ?_) (fun hb => ?_)
  · replace h := ite_t hb h
    refine x_pure 3 [(60, undef), (61, undef), (62, .bool true)] _ _ _ (by kernel_rfl) ?_
    refine x_end rfl (k_then ?_)
    refine c_norm [(4, .pointer (some ⟨b9, 0, none⟩)), (5, .slice a12 (d13_l15).length c12), (62, .bool true)] ⟨rfl, rfl, rfl, trivial⟩ (fun J => ?_)
    refine c_true rfl ?_
    refine c_seq (c_plain ?_)
    refine x_pure 1 [(2, .bool false)] _ _ _ (by kernel_rfl) ?_
    refine x_end rfl (k_then ?_)
    refine c_ret ?_
    refine k_then_ret ?_
    refine r_ret (r_vals [.bool false] ⟨rfl, trivial⟩ ?_)
    have hx := some_inj h
    subst hx
    have hmr : MS w35 [M] := hms.pick [some 2] _ rfl
    have hsu : ∀ x ∈ fl [M], x ∈ fl [[b9], B13_l15, M] := pick_sub [some 2] _ rfl
    exact ⟨rfl, hev⟩
  replace h := ite_f hb h
  refine x_pure 3 [(60, .bool x34.1), (61, .bool (!x34.1)), (62, .bool (!x34.1))] _ _ _ (by kernel_rfl) ?_
  refine x_end rfl (k_then ?_)
  refine c_norm [(4, .pointer (some ⟨b9, 0, none⟩)), (5, .slice a12 (d13_l15).length c12), (62, .bool (!x34.1))] ⟨rfl, rfl, rfl, trivial⟩ (fun J => ?_)
  refine c_cond (!x34.1) rfl (fun hb => ?_) (fun hb => ?_)
  · replace h := ite_t hb h
    refine c_seq (c_plain ?_)
    refine x_pure 1 [(2, .bool false)] _ _ _ (by kernel_rfl) ?_
    refine x_end rfl (k_then ?_)
    refine c_ret ?_
    refine k_then_ret ?_
    refine r_ret (r_vals [.bool false] ⟨rfl, trivial⟩ ?_)
    have hx := some_inj h
    subst hx
    have hmr : MS w35 [M] := hms.pick [some 2] _ rfl
    have hsu : ∀ x ∈ fl [M], x ∈ fl [[b9], B13_l15, M] := pick_sub [some 2] _ rfl
    exact ⟨rfl, hev⟩
  replace h := ite_f hb h
  refine c_skip ?_
  refine k_then ?_
  refine c_seq ?_
  refine c_seq (c_plain ?_)
  refine x_pure 1 [(63, .slice a12 (d13_l15).length c12)] _ _ _ (by kernel_rfl) ?_
  refine x_len (vs := [.slice a12 (d13_l15).length c12]) (.int .i64 ((d13_l15).length : Int)) rfl rfl rfl (reads_len tsl37 _ _ _ _ _) ?_
  refine x_pure 1 [(65, .int .i64 0)] _ _ _ (by kernel_rfl) ?_
  refine x_end rfl (k_then ?_)
  refine c_block ?_
  obtain ⟨d37, hd37, h37⟩ := bind_some h
  obtain ⟨m37, hd37⟩ := loop_some hd37
  refine c_loop (loop_rule hmx (σ := Nat × (List (List Int)) × Int) (fun s => match s with | (_, d13_l37, t65__s65_l37) => [(4, .pointer (some ⟨b9, 0, none⟩)), (5, .slice a12 (d13_l37).length c12), (64, .int .i64 ((d13_l15).length : Int)), (65, .int .i64 t65__s65_l37)]) (fun s w' => match s with | (m, d13_l37, t65__s65_l37) => loopN (law11_JobSorts_L37 x6 d13_l15) m (d13_l37, t65__s65_l37) = some d37 ∧ Ev [] w w' ∧ MS w' [[b9], B13_l15, M] ∧ FR w.heap.size [[b9], B13_l15] ∧ SlR (eProd (eInt .i64) (eProd (eInt .i64) (eProd (eInt .i64) (eInt .i64)))) w' (fl [[b9], B13_l15, M]) a0_7 c0_7 x6.1.1 ∧ w'.heap[b9]? = some (.cells #[.slice a0_7 (x6.1.1).length c0_7, .int .i64 x6.1.2] 24 (0, 0)) ∧ OwnR (eInt .i64) 3 27 w' B13_l15 a12 c12 d13_l37 none) (fun s => s.1) (m37, d13_l15, 0) ⟨rfl, rfl, rfl, rfl, trivial⟩ ⟨hd37, hev, hms, hfr, hf7_1, hb9, ho12⟩ ?_)
  rintro ⟨m37, d13_l37, t65__s65_l37⟩ J wl37 ⟨hn37, hev, hms, hfr, hf7_1, hb9, ho12⟩
  rcases m37 with _ | m37
  · exact (loopN_zero hn37).elim
  obtain ⟨t37, h, hn37⟩ := bind_some hn37
  refine c_seq (c_plain ?_)
  refine x_pure 1 [(66, .bool (decide (t65__s65_l37 < ((d13_l15).length : Int))))] _ _ _ (by kernel_rfl) ?_
  refine x_end rfl (k_then ?_)
  refine c_norm [(4, .pointer (some ⟨b9, 0, none⟩)), (5, .slice a12 (d13_l37).length c12), (64, .int .i64 ((d13_l15).length : Int)), (65, .int .i64 t65__s65_l37), (66, .bool (decide (t65__s65_l37 < ((d13_l15).length : Int))))] ⟨rfl, rfl, rfl, rfl, rfl, trivial⟩ (fun J => ?_)
  refine c_seq ?_
  refine c_cond (decide (t65__s65_l37 < ((d13_l15).length : Int))) rfl (fun hb => ?_) (fun hb => ?_)
  · replace h := ite_t hb h
    refine c_skip ?_
    refine k_then ?_
    refine c_seq ?_
    refine c_block ?_
    refine c_seq (c_plain ?_)
    refine x_pure 2 [(67, .int .i64 t65__s65_l37), (11, .int .i64 t65__s65_l37)] _ _ _ (by kernel_rfl) ?_
    refine x_end rfl (k_then ?_)
    refine c_seq (c_plain ?_)
    refine x_pure 1 [(12, .int .i64 0)] _ _ _ (by kernel_rfl) ?_
    refine x_end rfl (k_then ?_)
    refine c_block ?_
    obtain ⟨d39, hd39, h39⟩ := bind_some h
    obtain ⟨m39, hd39⟩ := loop_some hd39
    refine c_loop (loop_rule hmx (σ := Nat × (List (List Int)) × Int) (fun s => match s with | (_, d13_l39, i_s12_l39) => [(4, .pointer (some ⟨b9, 0, none⟩)), (5, .slice a12 (d13_l39).length c12), (11, .int .i64 t65__s65_l37), (12, .int .i64 i_s12_l39), (64, .int .i64 ((d13_l15).length : Int)), (65, .int .i64 t65__s65_l37)]) (fun s w' => match s with | (m, d13_l39, i_s12_l39) => loopN (law11_JobSorts_L39 x6 t65__s65_l37) m (d13_l39, i_s12_l39) = some d39 ∧ Ev [] w w' ∧ MS w' [[b9], B13_l15, M] ∧ FR w.heap.size [[b9], B13_l15] ∧ SlR (eProd (eInt .i64) (eProd (eInt .i64) (eProd (eInt .i64) (eInt .i64)))) w' (fl [[b9], B13_l15, M]) a0_7 c0_7 x6.1.1 ∧ w'.heap[b9]? = some (.cells #[.slice a0_7 (x6.1.1).length c0_7, .int .i64 x6.1.2] 24 (0, 0)) ∧ OwnR (eInt .i64) 3 27 w' B13_l15 a12 c12 d13_l39 none) (fun s => s.1) (m39, d13_l37, 0) ⟨rfl, rfl, rfl, rfl, rfl, rfl, trivial⟩ ⟨hd39, hev, hms, hfr, hf7_1, hb9, ho12⟩ ?_)
    rintro ⟨m39, d13_l39, i_s12_l39⟩ J wl39 ⟨hn39, hev, hms, hfr, hf7_1, hb9, ho12⟩
    rcases m39 with _ | m39
    · exact (loopN_zero hn39).elim
    obtain ⟨t39, h, hn39⟩ := bind_some hn39
    refine c_seq ?_
    refine c_seq (c_plain ?_)
    refine x_pure 4 [(68, .int .i64 i_s12_l39), (69, .int .i64 (IntKind.i64.wrap (i_s12_l39 + 1))), (70, .slice a12 (d13_l39).length c12), (71, .int .i64 t65__s65_l37)] _ _ _ (by kernel_rfl) ?_
    obtain ⟨x41, hx41, h⟩ := bind_some h
    obtain ⟨g41, ai41, ci41, hr41, hv41⟩ := OwnR.view (P := Try.prog) (Mo := []) tsl37 ho12 hx41
    refine x_indexAddr (xv := .slice a12 (d13_l39).length c12) (yv := .int .i64 t65__s65_l37) (.pointer (some ⟨g41, (Int.toNat t65__s65_l37), none⟩)) rfl rfl rfl rfl hr41 ?_
    refine x_load (xv := .pointer (some ⟨g41, (Int.toNat t65__s65_l37), none⟩)) (.slice ai41 (x41).length ci41) rfl rfl rfl (RView.load tcell27 hv41) ?_
    refine x_len (vs := [.slice ai41 (x41).length ci41]) (.int .i64 ((x41).length : Int)) rfl rfl rfl (reads_len tsl27 _ _ _ _ _) ?_
    refine x_pure 1 [(75, .bool (decide ((IntKind.i64.wrap (i_s12_l39 + 1)) < ((x41).length : Int))))] _ _ _ (by kernel_rfl) ?_
    refine x_end rfl (k_then ?_)
    refine c_norm [(4, .pointer (some ⟨b9, 0, none⟩)), (5, .slice a12 (d13_l39).length c12), (11, .int .i64 t65__s65_l37), (12, .int .i64 i_s12_l39), (64, .int .i64 ((d13_l15).length : Int)), (65, .int .i64 t65__s65_l37), (75, .bool (decide ((IntKind.i64.wrap (i_s12_l39 + 1)) < ((x41).length : Int))))] ⟨rfl, rfl, rfl, rfl, rfl, rfl, rfl, trivial⟩ (fun J => ?_)
    refine c_cond (decide ((IntKind.i64.wrap (i_s12_l39 + 1)) < ((x41).length : Int))) rfl (fun hb => ?_) (fun hb => ?_)
    · replace h := ite_t hb h
      refine c_skip ?_
      refine k_then ?_
      refine c_seq ?_
      refine c_block ?_
      refine c_seq ?_
      refine c_drawn [] [(0, false), (1, false), (2, false), (3, false), (4, false), (5, false), (6, false), (7, false), (8, false), (9, false), (10, false), (11, false), (12, false), (13, false), (14, false), (15, false), (16, false)] _ (by kernel_rfl) rfl ?_
      have hst := Stp.ext (ls := [[b9], B13_l15, M]) (Ev.drew wl39)
      replace hb9 := (Ev.drew wl39).box hb9 nn
      replace hf7_1 := hf7_1.step hst
      replace ho12 := ho12.step (plain_int _) (Ev.drew wl39) nn2
      replace hms := hms.ev (Ev.drew wl39)
      replace hev := hev.ext (Ev.drew wl39)
      refine x_pure 2 [(78, .slice a12 (d13_l39).length c12), (79, .int .i64 t65__s65_l37)] _ _ _ (by kernel_rfl) ?_
      obtain ⟨x43, hx43, h⟩ := bind_some h
      obtain ⟨g43, ai43, ci43, hr43, hv43⟩ := OwnR.view (P := Try.prog) (Mo := []) tsl37 ho12 hx43
      refine x_indexAddr (xv := .slice a12 (d13_l39).length c12) (yv := .int .i64 t65__s65_l37) (.pointer (some ⟨g43, (Int.toNat t65__s65_l37), none⟩)) rfl rfl rfl rfl hr43 ?_
      refine x_load (xv := .pointer (some ⟨g43, (Int.toNat t65__s65_l37), none⟩)) (.slice ai43 (x43).length ci43) rfl rfl rfl (RView.load tcell27 hv43) ?_
      refine x_pure 1 [(82, .int .i64 i_s12_l39)] _ _ _ (by kernel_rfl) ?_
      obtain ⟨x45, hx45, h⟩ := bind_some h
      obtain ⟨ad45, cs45, hr45, hc45, hR, hB45, hae45⟩ := RView.elem (P := Try.prog) (Mo := []) tsl27 hv43 hx45
      obtain rfl := hR
      refine x_indexAddr (xv := .slice ai43 (x43).length ci43) (yv := .int .i64 i_s12_l39) (.pointer (some ad45)) rfl rfl rfl rfl hr45 ?_
      refine x_load (xv := .pointer (some ad45)) (.int .i64 x45) rfl rfl rfl (reads_cell0 tcell3 hc45 (fun b hb => hb)) ?_
      refine x_pure 2 [(85, .slice a12 (d13_l39).length c12), (86, .int .i64 t65__s65_l37)] _ _ _ (by kernel_rfl) ?_
      obtain ⟨x47, hx47, h⟩ := bind_some h
      obtain ⟨g47, ai47, ci47, hr47, hv47⟩ := OwnR.view (P := Try.prog) (Mo := []) tsl37 ho12 hx47
      refine x_indexAddr (xv := .slice a12 (d13_l39).length c12) (yv := .int .i64 t65__s65_l37) (.pointer (some ⟨g47, (Int.toNat t65__s65_l37), none⟩)) rfl rfl rfl rfl hr47 ?_
      refine x_load (xv := .pointer (some ⟨g47, (Int.toNat t65__s65_l37), none⟩)) (.slice ai47 (x47).length ci47) rfl rfl rfl (RView.load tcell27 hv47) ?_
      refine x_pure 2 [(89, .int .i64 i_s12_l39), (90, .int .i64 (IntKind.i64.wrap (i_s12_l39 + 1)))] _ _ _ (by kernel_rfl) ?_
      obtain ⟨x49, hx49, h⟩ := bind_some h
      obtain ⟨ad49, cs49, hr49, hc49, hR, hB49, hae49⟩ := RView.elem (P := Try.prog) (Mo := []) tsl27 hv47 hx49
      obtain rfl := hR
      refine x_indexAddr (xv := .slice ai47 (x47).length ci47) (yv := .int .i64 (IntKind.i64.wrap (i_s12_l39 + 1))) (.pointer (some ad49)) rfl rfl rfl rfl hr49 ?_
      refine x_load (xv := .pointer (some ad49)) (.int .i64 x49) rfl rfl rfl (reads_cell0 tcell3 hc49 (fun b hb => hb)) ?_
      refine x_pure 2 [(13, .int .i64 x45), (14, .int .i64 x49)] _ _ _ (by kernel_rfl) ?_
      refine x_end rfl (k_then ?_)
      refine c_norm [(4, .pointer (some ⟨b9, 0, none⟩)), (5, .slice a12 (d13_l39).length c12), (11, .int .i64 t65__s65_l37), (12, .int .i64 i_s12_l39), (13, .int .i64 x45), (14, .int .i64 x49), (64, .int .i64 ((d13_l15).length : Int)), (65, .int .i64 t65__s65_l37)] ⟨rfl, rfl, rfl, rfl, rfl, rfl, rfl, rfl, trivial⟩ (fun J => ?_)
      refine c_seq ?_
      refine c_drawn (B13_l15) [(0, true), (1, true), (2, true), (3, true), (4, true), (5, false), (6, false), (7, false), (8, true), (9, false), (10, false), (11, true), (12, false), (13, true), (14, false), (15, true), (16, true)] _ (by kernel_rfl) rfl ?_
      have hst := Stp.ext (ls := [[b9], B13_l15, M]) (Ev.drew ((wl39).drew))
      replace hb9 := (Ev.drew ((wl39).drew)).box hb9 nn
      replace hf7_1 := hf7_1.step hst
      replace ho12 := ho12.step (plain_int _) (Ev.drew ((wl39).drew)) nn2
      replace hms := hms.ev (Ev.drew ((wl39).drew))
      replace hev := hev.ext (Ev.drew ((wl39).drew))
      refine x_pure 2 [(93, .slice a12 (d13_l39).length c12), (94, .int .i64 t65__s65_l37)] _ _ _ (by kernel_rfl) ?_
      obtain ⟨x51, hx51, h⟩ := bind_some h
      obtain ⟨g51, ai51, ci51, hr51, hv51⟩ := OwnR.view (P := Try.prog) (Mo := []) tsl37 ho12 hx51
      refine x_indexAddr (xv := .slice a12 (d13_l39).length c12) (yv := .int .i64 t65__s65_l37) (.pointer (some ⟨g51, (Int.toNat t65__s65_l37), none⟩)) rfl rfl rfl rfl hr51 ?_
      refine x_load (xv := .pointer (some ⟨g51, (Int.toNat t65__s65_l37), none⟩)) (.slice ai51 (x51).length ci51) rfl rfl rfl (RView.load tcell27 hv51) ?_
      refine x_pure 3 [(97, .int .i64 i_s12_l39), (98, .slice a12 (d13_l39).length c12), (99, .int .i64 t65__s65_l37)] _ _ _ (by kernel_rfl) ?_
      obtain ⟨x53, hx53, h⟩ := bind_some h
      obtain ⟨g53, ai53, ci53, hr53, hv53⟩ := OwnR.view (P := Try.prog) (Mo := (B13_l15)) tsl37 ho12 hx53
      refine x_indexAddr (xv := .slice a12 (d13_l39).length c12) (yv := .int .i64 t65__s65_l37) (.pointer (some ⟨g53, (Int.toNat t65__s65_l37), none⟩)) rfl rfl rfl rfl hr53 ?_
      refine x_load (xv := .pointer (some ⟨g53, (Int.toNat t65__s65_l37), none⟩)) (.slice ai53 (x53).length ci53) rfl rfl rfl (RView.load tcell27 hv53) ?_
      refine x_pure 4 [(102, .int .i64 i_s12_l39), (103, .int .i64 (IntKind.i64.wrap (i_s12_l39 + 1))), (104, .int .i64 x49), (105, .int .i64 x45)] _ _ _ (by kernel_rfl) ?_
      obtain ⟨x55, hx55, h⟩ := bind_some h
      obtain ⟨ad55, cs55, hr55, hc55, hR, hB55, hae55⟩ := RView.elem (P := Try.prog) (Mo := []) tsl27 hv51 hx55
      obtain rfl := hR
      refine x_indexAddr (xv := .slice ai51 (x51).length ci51) (yv := .int .i64 i_s12_l39) (.pointer (some ad55)) rfl rfl rfl rfl hr55 ?_
      have hu57_54 := RView.uniq hv51 hv53
      obtain ⟨w57, hr57, he57, hv57, ho57⟩ := RView.store (P := Try.prog) (y := x49) (.int .i64 x49) (plain_int _) tcell3 ho12 hv51 hx55 hae55 rfl rfl (fun _ _ _ hR => set_int hR)
      refine x_store w57 (xv := .pointer (some ad55)) (yv := .int .i64 x49) rfl rfl rfl rfl hr57 ?_
      refine ⟨.inr he57, ?_⟩
      have hst := Stp.ev' (ls := [[b9], B13_l15, M]) he57 (mem_flat 1 rfl)
      replace hb9 := he57.box hb9 (hms.apart 0 1 rfl rfl rfl _ (List.mem_singleton.2 rfl))
      replace hf7_1 := hf7_1.step hst
      replace hms := hms.ev he57
      replace hev := hev.then he57 (fun b hb => .inr (hfr.at 1 rfl b hb))
      replace ho12 := ho57
      have hsl : (Value.slice a12 (d13_l39).length c12) = (Value.slice a12 ((d13_l39.set (Int.toNat t65__s65_l37) (x51.set (Int.toNat i_s12_l39) x49))).length c12) := by first | (rw [List.length_set]; done) | simp only [List.length_set]
      try rw [hsl]
      clear hsl
      replace hv51 := hv57
      have hsl : (Value.slice ai51 (x51).length ci51) = (Value.slice ai51 ((x51.set (Int.toNat i_s12_l39) x49)).length ci51) := by first | (rw [List.length_set]; done) | simp only [List.length_set]
      try rw [hsl]
      clear hsl
      replace hv53 := hv57.re hu57_54.1
      have hsl : (Value.slice ai53 (x53).length ci53) = (Value.slice ai53 ((x51.set (Int.toNat i_s12_l39) x49)).length ci53) := by first | (rw [List.length_set, hu57_54.2]; done) | simp only [List.length_set, hu57_54.2]
      try rw [hsl]
      clear hsl
      obtain ⟨x58, hx58, h⟩ := bind_some h
      obtain ⟨ad58, cs58, hr58, hc58, hR, hB58, hae58⟩ := RView.elem (P := Try.prog) (Mo := []) tsl27 hv53 hx58
      obtain rfl := hR
      refine x_indexAddr (xv := .slice ai53 ((x51.set (Int.toNat i_s12_l39) x49)).length ci53) (yv := .int .i64 (IntKind.i64.wrap (i_s12_l39 + 1))) (.pointer (some ad58)) rfl rfl rfl rfl hr58 ?_
      have hu60_52 := RView.uniq hv53 hv51
      obtain ⟨w60, hr60, he60, hv60, ho60⟩ := RView.store (P := Try.prog) (y := x45) (.int .i64 x45) (plain_int _) tcell3 ho12 hv53 hx58 hae58 rfl rfl (fun _ _ _ hR => set_int hR)
      refine x_store w60 (xv := .pointer (some ad58)) (yv := .int .i64 x45) rfl rfl rfl rfl hr60 ?_
      refine ⟨.inl rfl, ?_⟩
      have hst := Stp.ev' (ls := [[b9], B13_l15, M]) he60 (mem_flat 1 rfl)
      replace hb9 := he60.box hb9 (hms.apart 0 1 rfl rfl rfl _ (List.mem_singleton.2 rfl))
      replace hf7_1 := hf7_1.step hst
      replace hms := hms.ev he60
      replace hev := hev.then he60 (fun b hb => .inr (hfr.at 1 rfl b hb))
      replace ho12 := ho60
      have hsl : (Value.slice a12 ((d13_l39.set (Int.toNat t65__s65_l37) (x51.set (Int.toNat i_s12_l39) x49))).length c12) = (Value.slice a12 (((d13_l39.set (Int.toNat t65__s65_l37) (x51.set (Int.toNat i_s12_l39) x49)).set (Int.toNat t65__s65_l37) ((x51.set (Int.toNat i_s12_l39) x49).set (Int.toNat (IntKind.i64.wrap (i_s12_l39 + 1))) x45))).length c12) := by first | (rw [List.length_set]; done) | simp only [List.length_set]
      try rw [hsl]
      clear hsl
      replace hv53 := hv60
      have hsl : (Value.slice ai53 ((x51.set (Int.toNat i_s12_l39) x49)).length ci53) = (Value.slice ai53 (((x51.set (Int.toNat i_s12_l39) x49).set (Int.toNat (IntKind.i64.wrap (i_s12_l39 + 1))) x45)).length ci53) := by first | (rw [List.length_set]; done) | simp only [List.length_set]
      try rw [hsl]
      clear hsl
      replace hv51 := hv60.re hu60_52.1
      have hsl : (Value.slice ai51 ((x51.set (Int.toNat i_s12_l39) x49)).length ci51) = (Value.slice ai51 (((x51.set (Int.toNat i_s12_l39) x49).set (Int.toNat (IntKind.i64.wrap (i_s12_l39 + 1))) x45)).length ci51) := by first | (rw [List.length_set, hu60_52.2]; done) | simp only [List.length_set, hu60_52.2]
      try rw [hsl]
      clear hsl
      refine x_end rfl (k_then ?_)
      refine c_norm [(4, .pointer (some ⟨b9, 0, none⟩)), (5, .slice a12 (((d13_l39.set (Int.toNat t65__s65_l37) (x51.set (Int.toNat i_s12_l39) x49)).set (Int.toNat t65__s65_l37) ((x51.set (Int.toNat i_s12_l39) x49).set (Int.toNat (IntKind.i64.wrap (i_s12_l39 + 1))) x45))).length c12), (11, .int .i64 t65__s65_l37), (12, .int .i64 i_s12_l39), (13, .int .i64 x45), (14, .int .i64 x49), (64, .int .i64 ((d13_l15).length : Int)), (65, .int .i64 t65__s65_l37)] ⟨rfl, rfl, rfl, rfl, rfl, rfl, rfl, rfl, trivial⟩ (fun J => ?_)
      refine c_seq (c_plain ?_)
      refine x_load (xv := .pointer (some ⟨b9, 0, none⟩)) (.agg #[.slice a0_7 (x6.1.1).length c0_7, .int .i64 x6.1.2]) rfl rfl rfl (reads_boxagg 0 [.slice a0_7 (x6.1.1).length c0_7, .int .i64 x6.1.2] tagg24 hb9 nn rfl) ?_
      refine x_pure 1 [(110, .slice a12 (((d13_l39.set (Int.toNat t65__s65_l37) (x51.set (Int.toNat i_s12_l39) x49)).set (Int.toNat t65__s65_l37) ((x51.set (Int.toNat i_s12_l39) x49).set (Int.toNat (IntKind.i64.wrap (i_s12_l39 + 1))) x45))).length c12)] _ _ _ (by kernel_rfl) ?_
      obtain ⟨x61, hx, h⟩ := bind_some h
      have hpk : MS w60 ([] ++ [[b9], M]) := hms.pick [some 0, some 2] _ rfl
      have hsb0 : ∀ x ∈ fl ([] ++ [[b9], M]), x ∈ fl [[b9], B13_l15, M] := pick_sub [some 0, some 2] _ rfl
      have hsb : ∀ x ∈ fl ([] ++ [(fl [[b9], M])]), x ∈ fl [[b9], B13_l15, M] := fun x hx => hsb0 x (fl_unfold x hx)
      have hcall := job_Sorted_w a0_7 c0_7 x6.1.1 x6.1.2 a12 c12 ((d13_l39.set (Int.toNat t65__s65_l37) (x51.set (Int.toNat i_s12_l39) x49)).set (Int.toNat t65__s65_l37) ((x51.set (Int.toNat i_s12_l39) x49).set (Int.toNat (IntKind.i64.wrap (i_s12_l39 + 1))) x45)) _ w60 (fl [[b9], M]) (MS.fold (P := []) hpk) (hf7_1.sub hsb) (OwnR.ro (plain_int _) ho12 (fun b hb hb2 => pick_out hms 1 rfl [some 0, some 2] ([] ++ [[b9], M]) rfl rfl b hb (fl_unfold b hb2))) hx
      refine x_call 15 #[] #[] [.agg #[.slice a0_7 (x6.1.1).length c0_7, .int .i64 x6.1.2], .slice a12 (((d13_l39.set (Int.toNat t65__s65_l37) (x51.set (Int.toNat i_s12_l39) x49)).set (Int.toNat t65__s65_l37) ((x51.set (Int.toNat i_s12_l39) x49).set (Int.toNat (IntKind.i64.wrap (i_s12_l39 + 1))) x45))).length c12] _ rfl rfl rfl rfl hcall ?_
      rintro v w62 ⟨rfl, he62⟩
      clear hcall hx
      refine ⟨.inl rfl, ?_⟩
      have hst := Stp.ext (ls := [[b9], B13_l15, M]) he62
      replace hb9 := he62.box hb9 nn
      replace hf7_1 := hf7_1.step hst
      replace ho12 := ho12.step (plain_int _) he62 nn2
      replace hms := hms.ev he62
      replace hev := hev.ext he62
      clear hpk hsb hsb0
      refine x_pure 5 [(108, .tuple #[.bool x61.1, .int .i64 x61.2]), (112, .bool x61.1), (113, .int .i64 x61.2), (15, .bool x61.1), (16, .int .i64 x61.2)] _ _ _ (by kernel_rfl) ?_
      refine x_end rfl (k_then ?_)
      refine c_seq ?_
      refine c_drawn (B13_l15) [(0, true), (1, true), (2, true), (3, true), (4, true), (5, false), (6, false), (7, false), (8, true), (9, false), (10, false), (11, true), (12, false), (13, true), (14, false), (15, true), (16, true)] _ (by kernel_rfl) rfl ?_
      have hst := Stp.ext (ls := [[b9], B13_l15, M]) (Ev.drew w62)
      replace hb9 := (Ev.drew w62).box hb9 nn
      replace hf7_1 := hf7_1.step hst
      replace ho12 := ho12.step (plain_int _) (Ev.drew w62) nn2
      replace hms := hms.ev (Ev.drew w62)
      replace hev := hev.ext (Ev.drew w62)
      refine x_pure 2 [(114, .slice a12 (((d13_l39.set (Int.toNat t65__s65_l37) (x51.set (Int.toNat i_s12_l39) x49)).set (Int.toNat t65__s65_l37) ((x51.set (Int.toNat i_s12_l39) x49).set (Int.toNat (IntKind.i64.wrap (i_s12_l39 + 1))) x45))).length c12), (115, .int .i64 t65__s65_l37)] _ _ _ (by kernel_rfl) ?_
      obtain ⟨x63, hx63, h⟩ := bind_some h
      obtain ⟨g63, ai63, ci63, hr63, hv63⟩ := OwnR.view (P := Try.prog) (Mo := []) tsl37 ho12 hx63
      refine x_indexAddr (xv := .slice a12 (((d13_l39.set (Int.toNat t65__s65_l37) (x51.set (Int.toNat i_s12_l39) x49)).set (Int.toNat t65__s65_l37) ((x51.set (Int.toNat i_s12_l39) x49).set (Int.toNat (IntKind.i64.wrap (i_s12_l39 + 1))) x45))).length c12) (yv := .int .i64 t65__s65_l37) (.pointer (some ⟨g63, (Int.toNat t65__s65_l37), none⟩)) rfl rfl rfl rfl hr63 ?_
      refine x_load (xv := .pointer (some ⟨g63, (Int.toNat t65__s65_l37), none⟩)) (.slice ai63 (x63).length ci63) rfl rfl rfl (RView.load tcell27 hv63) ?_
      refine x_pure 3 [(118, .int .i64 i_s12_l39), (119, .slice a12 (((d13_l39.set (Int.toNat t65__s65_l37) (x51.set (Int.toNat i_s12_l39) x49)).set (Int.toNat t65__s65_l37) ((x51.set (Int.toNat i_s12_l39) x49).set (Int.toNat (IntKind.i64.wrap (i_s12_l39 + 1))) x45))).length c12), (120, .int .i64 t65__s65_l37)] _ _ _ (by kernel_rfl) ?_
      obtain ⟨x65, hx65, h⟩ := bind_some h
      obtain ⟨g65, ai65, ci65, hr65, hv65⟩ := OwnR.view (P := Try.prog) (Mo := (B13_l15)) tsl37 ho12 hx65
      refine x_indexAddr (xv := .slice a12 (((d13_l39.set (Int.toNat t65__s65_l37) (x51.set (Int.toNat i_s12_l39) x49)).set (Int.toNat t65__s65_l37) ((x51.set (Int.toNat i_s12_l39) x49).set (Int.toNat (IntKind.i64.wrap (i_s12_l39 + 1))) x45))).length c12) (yv := .int .i64 t65__s65_l37) (.pointer (some ⟨g65, (Int.toNat t65__s65_l37), none⟩)) rfl rfl rfl rfl hr65 ?_
      refine x_load (xv := .pointer (some ⟨g65, (Int.toNat t65__s65_l37), none⟩)) (.slice ai65 (x65).length ci65) rfl rfl rfl (RView.load tcell27 hv65) ?_
      refine x_pure 4 [(123, .int .i64 i_s12_l39), (124, .int .i64 (IntKind.i64.wrap (i_s12_l39 + 1))), (125, .int .i64 x45), (126, .int .i64 x49)] _ _ _ (by kernel_rfl) ?_
      obtain ⟨x67, hx67, h⟩ := bind_some h
      obtain ⟨ad67, cs67, hr67, hc67, hR, hB67, hae67⟩ := RView.elem (P := Try.prog) (Mo := []) tsl27 hv63 hx67
      obtain rfl := hR
      refine x_indexAddr (xv := .slice ai63 (x63).length ci63) (yv := .int .i64 i_s12_l39) (.pointer (some ad67)) rfl rfl rfl rfl hr67 ?_
      have hu69_66 := RView.uniq hv63 hv65
      obtain ⟨w69, hr69, he69, hv69, ho69⟩ := RView.store (P := Try.prog) (y := x45) (.int .i64 x45) (plain_int _) tcell3 ho12 hv63 hx67 hae67 rfl rfl (fun _ _ _ hR => set_int hR)
      refine x_store w69 (xv := .pointer (some ad67)) (yv := .int .i64 x45) rfl rfl rfl rfl hr69 ?_
      refine ⟨.inr he69, ?_⟩
      have hst := Stp.ev' (ls := [[b9], B13_l15, M]) he69 (mem_flat 1 rfl)
      replace hb9 := he69.box hb9 (hms.apart 0 1 rfl rfl rfl _ (List.mem_singleton.2 rfl))
      replace hf7_1 := hf7_1.step hst
      replace hms := hms.ev he69
      replace hev := hev.then he69 (fun b hb => .inr (hfr.at 1 rfl b hb))
      replace ho12 := ho69
      have hsl : (Value.slice a12 (((d13_l39.set (Int.toNat t65__s65_l37) (x51.set (Int.toNat i_s12_l39) x49)).set (Int.toNat t65__s65_l37) ((x51.set (Int.toNat i_s12_l39) x49).set (Int.toNat (IntKind.i64.wrap (i_s12_l39 + 1))) x45))).length c12) = (Value.slice a12 ((((d13_l39.set (Int.toNat t65__s65_l37) (x51.set (Int.toNat i_s12_l39) x49)).set (Int.toNat t65__s65_l37) ((x51.set (Int.toNat i_s12_l39) x49).set (Int.toNat (IntKind.i64.wrap (i_s12_l39 + 1))) x45)).set (Int.toNat t65__s65_l37) (x63.set (Int.toNat i_s12_l39) x45))).length c12) := by first | (rw [List.length_set]; done) | simp only [List.length_set]
      try rw [hsl]
      clear hsl
      replace hv63 := hv69
      have hsl : (Value.slice ai63 (x63).length ci63) = (Value.slice ai63 ((x63.set (Int.toNat i_s12_l39) x45)).length ci63) := by first | (rw [List.length_set]; done) | simp only [List.length_set]
      try rw [hsl]
      clear hsl
      replace hv65 := hv69.re hu69_66.1
      have hsl : (Value.slice ai65 (x65).length ci65) = (Value.slice ai65 ((x63.set (Int.toNat i_s12_l39) x45)).length ci65) := by first | (rw [List.length_set, hu69_66.2]; done) | simp only [List.length_set, hu69_66.2]
      try rw [hsl]
      clear hsl
      obtain ⟨x70, hx70, h⟩ := bind_some h
      obtain ⟨ad70, cs70, hr70, hc70, hR, hB70, hae70⟩ := RView.elem (P := Try.prog) (Mo := []) tsl27 hv65 hx70
      obtain rfl := hR
      refine x_indexAddr (xv := .slice ai65 ((x63.set (Int.toNat i_s12_l39) x45)).length ci65) (yv := .int .i64 (IntKind.i64.wrap (i_s12_l39 + 1))) (.pointer (some ad70)) rfl rfl rfl rfl hr70 ?_
      have hu72_64 := RView.uniq hv65 hv63
      obtain ⟨w72, hr72, he72, hv72, ho72⟩ := RView.store (P := Try.prog) (y := x49) (.int .i64 x49) (plain_int _) tcell3 ho12 hv65 hx70 hae70 rfl rfl (fun _ _ _ hR => set_int hR)
      refine x_store w72 (xv := .pointer (some ad70)) (yv := .int .i64 x49) rfl rfl rfl rfl hr72 ?_
      refine ⟨.inl rfl, ?_⟩
      have hst := Stp.ev' (ls := [[b9], B13_l15, M]) he72 (mem_flat 1 rfl)
      replace hb9 := he72.box hb9 (hms.apart 0 1 rfl rfl rfl _ (List.mem_singleton.2 rfl))
      replace hf7_1 := hf7_1.step hst
      replace hms := hms.ev he72
      replace hev := hev.then he72 (fun b hb => .inr (hfr.at 1 rfl b hb))
      replace ho12 := ho72
      have hsl : (Value.slice a12 ((((d13_l39.set (Int.toNat t65__s65_l37) (x51.set (Int.toNat i_s12_l39) x49)).set (Int.toNat t65__s65_l37) ((x51.set (Int.toNat i_s12_l39) x49).set (Int.toNat (IntKind.i64.wrap (i_s12_l39 + 1))) x45)).set (Int.toNat t65__s65_l37) (x63.set (Int.toNat i_s12_l39) x45))).length c12) = (Value.slice a12 (((((d13_l39.set (Int.toNat t65__s65_l37) (x51.set (Int.toNat i_s12_l39) x49)).set (Int.toNat t65__s65_l37) ((x51.set (Int.toNat i_s12_l39) x49).set (Int.toNat (IntKind.i64.wrap (i_s12_l39 + 1))) x45)).set (Int.toNat t65__s65_l37) (x63.set (Int.toNat i_s12_l39) x45)).set (Int.toNat t65__s65_l37) ((x63.set (Int.toNat i_s12_l39) x45).set (Int.toNat (IntKind.i64.wrap (i_s12_l39 + 1))) x49))).length c12) := by first | (rw [List.length_set]; done) | simp only [List.length_set]
      try rw [hsl]
      clear hsl
      replace hv65 := hv72
      have hsl : (Value.slice ai65 ((x63.set (Int.toNat i_s12_l39) x45)).length ci65) = (Value.slice ai65 (((x63.set (Int.toNat i_s12_l39) x45).set (Int.toNat (IntKind.i64.wrap (i_s12_l39 + 1))) x49)).length ci65) := by first | (rw [List.length_set]; done) | simp only [List.length_set]
      try rw [hsl]
      clear hsl
      replace hv63 := hv72.re hu72_64.1
      have hsl : (Value.slice ai63 ((x63.set (Int.toNat i_s12_l39) x45)).length ci63) = (Value.slice ai63 (((x63.set (Int.toNat i_s12_l39) x45).set (Int.toNat (IntKind.i64.wrap (i_s12_l39 + 1))) x49)).length ci63) := by first | (rw [List.length_set, hu72_64.2]; done) | simp only [List.length_set, hu72_64.2]
      try rw [hsl]
      clear hsl
      refine x_end rfl (k_then ?_)
      refine c_norm [(4, .pointer (some ⟨b9, 0, none⟩)), (5, .slice a12 (((((d13_l39.set (Int.toNat t65__s65_l37) (x51.set (Int.toNat i_s12_l39) x49)).set (Int.toNat t65__s65_l37) ((x51.set (Int.toNat i_s12_l39) x49).set (Int.toNat (IntKind.i64.wrap (i_s12_l39 + 1))) x45)).set (Int.toNat t65__s65_l37) (x63.set (Int.toNat i_s12_l39) x45)).set (Int.toNat t65__s65_l37) ((x63.set (Int.toNat i_s12_l39) x45).set (Int.toNat (IntKind.i64.wrap (i_s12_l39 + 1))) x49))).length c12), (11, .int .i64 t65__s65_l37), (12, .int .i64 i_s12_l39), (13, .int .i64 x45), (14, .int .i64 x49), (15, .bool x61.1), (16, .int .i64 x61.2), (64, .int .i64 ((d13_l15).length : Int)), (65, .int .i64 t65__s65_l37)] ⟨rfl, rfl, rfl, rfl, rfl, rfl, rfl, rfl, rfl, rfl, trivial⟩ (fun J => ?_)
      refine c_seq ?_
      refine c_drawn [] [(0, false), (1, false), (2, false), (3, false), (4, false), (5, false), (6, false), (7, false), (8, false), (9, false), (10, false), (11, false), (12, false), (13, false), (14, false), (15, false), (16, false), (17, false), (18, false)] _ (by kernel_rfl) rfl ?_
      have hst := Stp.ext (ls := [[b9], B13_l15, M]) (Ev.drew w72)
      replace hb9 := (Ev.drew w72).box hb9 nn
      replace hf7_1 := hf7_1.step hst
      replace ho12 := ho12.step (plain_int _) (Ev.drew w72) nn2
      replace hms := hms.ev (Ev.drew w72)
      replace hev := hev.ext (Ev.drew w72)
      refine x_pure 3 [(129, .int .i64 x61.2), (130, .bool (x61.2 != 0)), (131, .bool (x61.2 != 0))] _ _ _ (by kernel_rfl) ?_
      refine x_split 131 (x61.2 != 0) rfl (fun hb => ?_) (fun hb => ?_)
      · replace h := ite_t hb h
        refine x_pure 16 [(132, undef), (133, undef), (134, undef), (135, undef), (136, undef), (137, undef), (138, undef), (139, undef), (140, undef), (141, undef), (142, undef), (143, undef), (144, undef), (145, undef), (146, undef), (147, .bool true)] _ _ _ (by kernel_rfl) ?_
        refine x_end rfl (k_then ?_)
        refine c_norm [(4, .pointer (some ⟨b9, 0, none⟩)), (5, .slice a12 (((((d13_l39.set (Int.toNat t65__s65_l37) (x51.set (Int.toNat i_s12_l39) x49)).set (Int.toNat t65__s65_l37) ((x51.set (Int.toNat i_s12_l39) x49).set (Int.toNat (IntKind.i64.wrap (i_s12_l39 + 1))) x45)).set (Int.toNat t65__s65_l37) (x63.set (Int.toNat i_s12_l39) x45)).set (Int.toNat t65__s65_l37) ((x63.set (Int.toNat i_s12_l39) x45).set (Int.toNat (IntKind.i64.wrap (i_s12_l39 + 1))) x49))).length c12), (11, .int .i64 t65__s65_l37), (12, .int .i64 i_s12_l39), (64, .int .i64 ((d13_l15).length : Int)), (65, .int .i64 t65__s65_l37), (147, .bool true)] ⟨rfl, rfl, rfl, rfl, rfl, rfl, rfl, trivial⟩ (fun J => ?_)
        refine c_true rfl ?_
        refine c_seq (c_plain ?_)
        refine x_pure 1 [(2, .bool false)] _ _ _ (by kernel_rfl) ?_
        refine x_end rfl (k_then ?_)
        refine c_ret ?_
        refine k_block_ret ?_
        refine k_then_ret ?_
        have hx := some_inj h
        subst hx
        have hy := some_inj hn39
        subst hy
        replace h := h39
        refine k_then_ret ?_
        refine k_block_ret ?_
        refine k_block_ret ?_
        refine k_then_ret ?_
        have hx := some_inj h
        subst hx
        have hy := some_inj hn37
        subst hy
        replace h := h37
        refine k_then_ret ?_
        refine k_block_ret ?_
        refine k_then_ret ?_
        refine r_ret (r_vals [.bool false] ⟨rfl, trivial⟩ ?_)
        have hx := some_inj h
        subst hx
        have hmr : MS (w72).drew [M] := hms.pick [some 2] _ rfl
        have hsu : ∀ x ∈ fl [M], x ∈ fl [[b9], B13_l15, M] := pick_sub [some 2] _ rfl
        exact ⟨rfl, hev⟩
      replace h := ite_f hb h
      refine x_pure 1 [(132, .bool x61.1)] _ _ _ (by kernel_rfl) ?_
      refine x_fieldAddr (xv := .pointer (some ⟨b9, 0, none⟩)) (.pointer (some ⟨b9, 0, none⟩)) rfl rfl rfl (reads_field tfld24_0 _ _) ?_
      refine x_load (xv := .pointer (some ⟨b9, 0, none⟩)) (.slice a0_7 (x6.1.1).length c0_7) rfl rfl rfl (reads_box tcell22 hb9 nn 0 _ rfl) ?_
      refine x_pure 1 [(135, .int .i64 x45)] _ _ _ (by kernel_rfl) ?_
      obtain ⟨x73, hx73, h⟩ := bind_some h
      obtain ⟨ad73, cs73, hr73, hc73, hR⟩ := reads_index (Mo := []) tsl22 hf7_1 hx73
      obtain ⟨_, _, rfl, rfl, ⟨_, _, rfl, rfl, ⟨_, _, rfl, rfl, rfl⟩⟩⟩ := hR
      refine x_indexAddr (xv := .slice a0_7 (x6.1.1).length c0_7) (yv := .int .i64 x45) (.pointer (some ad73)) rfl rfl rfl rfl hr73 ?_
      refine x_fieldAddr (xv := .pointer (some ad73)) (.pointer (some (Addr.add ad73 1))) rfl rfl rfl (reads_field tfld26_1 _ _) ?_
      refine x_load (xv := .pointer (some (Addr.add ad73 1))) (.int .i64 x73.2.1) rfl rfl rfl (reads_cell tcell3 hc73 (fun _ h => by cases h) 1 _ rfl) ?_
      refine x_fieldAddr (xv := .pointer (some ⟨b9, 0, none⟩)) (.pointer (some ⟨b9, 0, none⟩)) rfl rfl rfl (reads_field tfld24_0 _ _) ?_
      refine x_load (xv := .pointer (some ⟨b9, 0, none⟩)) (.slice a0_7 (x6.1.1).length c0_7) rfl rfl rfl (reads_box tcell22 hb9 nn 0 _ rfl) ?_
      refine x_pure 1 [(141, .int .i64 x49)] _ _ _ (by kernel_rfl) ?_
      obtain ⟨x75, hx75, h⟩ := bind_some h
      obtain ⟨ad75, cs75, hr75, hc75, hR⟩ := reads_index (Mo := []) tsl22 hf7_1 hx75
      obtain ⟨_, _, rfl, rfl, ⟨_, _, rfl, rfl, ⟨_, _, rfl, rfl, rfl⟩⟩⟩ := hR
      refine x_indexAddr (xv := .slice a0_7 (x6.1.1).length c0_7) (yv := .int .i64 x49) (.pointer (some ad75)) rfl rfl rfl rfl hr75 ?_
      refine x_fieldAddr (xv := .pointer (some ad75)) (.pointer (some (Addr.add ad75 1))) rfl rfl rfl (reads_field tfld26_1 _ _) ?_
      refine x_load (xv := .pointer (some (Addr.add ad75 1))) (.int .i64 x75.2.1) rfl rfl rfl (reads_cell tcell3 hc75 (fun _ h => by cases h) 1 _ rfl) ?_
      refine x_pure 1 [(145, .bool (x73.2.1 == x75.2.1))] _ _ _ (by kernel_rfl) ?_
      refine x_binop (.bool (x61.1 != (x73.2.1 == x75.2.1))) (.bool x61.1) (.bool (x73.2.1 == x75.2.1)) rfl rfl rfl rfl (vb_boolneq tbool4) ?_
      refine x_pure 1 [(147, .bool (x61.1 != (x73.2.1 == x75.2.1)))] _ _ _ (by kernel_rfl) ?_
      refine x_end rfl (k_then ?_)
      refine c_norm [(4, .pointer (some ⟨b9, 0, none⟩)), (5, .slice a12 (((((d13_l39.set (Int.toNat t65__s65_l37) (x51.set (Int.toNat i_s12_l39) x49)).set (Int.toNat t65__s65_l37) ((x51.set (Int.toNat i_s12_l39) x49).set (Int.toNat (IntKind.i64.wrap (i_s12_l39 + 1))) x45)).set (Int.toNat t65__s65_l37) (x63.set (Int.toNat i_s12_l39) x45)).set (Int.toNat t65__s65_l37) ((x63.set (Int.toNat i_s12_l39) x45).set (Int.toNat (IntKind.i64.wrap (i_s12_l39 + 1))) x49))).length c12), (11, .int .i64 t65__s65_l37), (12, .int .i64 i_s12_l39), (64, .int .i64 ((d13_l15).length : Int)), (65, .int .i64 t65__s65_l37), (147, .bool (x61.1 != (x73.2.1 == x75.2.1)))] ⟨rfl, rfl, rfl, rfl, rfl, rfl, rfl, trivial⟩ (fun J => ?_)
      refine c_cond (x61.1 != (x73.2.1 == x75.2.1)) rfl (fun hb => ?_) (fun hb => ?_)
      · replace h := ite_t hb h
        refine c_seq (c_plain ?_)
        refine x_pure 1 [(2, .bool false)] _ _ _ (by kernel_rfl) ?_
        refine x_end rfl (k_then ?_)
        refine c_ret ?_
        refine k_block_ret ?_
        refine k_then_ret ?_
        have hx := some_inj h
        subst hx
        have hy := some_inj hn39
        subst hy
        replace h := h39
        refine k_then_ret ?_
        refine k_block_ret ?_
        refine k_block_ret ?_
        refine k_then_ret ?_
        have hx := some_inj h
        subst hx
        have hy := some_inj hn37
        subst hy
        replace h := h37
        refine k_then_ret ?_
        refine k_block_ret ?_
        refine k_then_ret ?_
        refine r_ret (r_vals [.bool false] ⟨rfl, trivial⟩ ?_)
        have hx := some_inj h
        subst hx
        have hmr : MS (w72).drew [M] := hms.pick [some 2] _ rfl
        have hsu : ∀ x ∈ fl [M], x ∈ fl [[b9], B13_l15, M] := pick_sub [some 2] _ rfl
        exact ⟨rfl, hev⟩
      replace h := ite_f hb h
      refine c_skip ?_
      refine k_block ?_
      refine k_then ?_
      refine c_plain ?_
      refine x_pure 3 [(76, .int .i64 i_s12_l39), (77, .int .i64 (IntKind.i64.wrap (i_s12_l39 + 1))), (12, .int .i64 (IntKind.i64.wrap (i_s12_l39 + 1)))] _ _ _ (by kernel_rfl) ?_
      refine x_end rfl ?_
      have hx := some_inj h
      subst hx
      exact k_then ⟨(m39, ((((d13_l39.set (Int.toNat t65__s65_l37) (x51.set (Int.toNat i_s12_l39) x49)).set (Int.toNat t65__s65_l37) ((x51.set (Int.toNat i_s12_l39) x49).set (Int.toNat (IntKind.i64.wrap (i_s12_l39 + 1))) x45)).set (Int.toNat t65__s65_l37) (x63.set (Int.toNat i_s12_l39) x45)).set (Int.toNat t65__s65_l37) ((x63.set (Int.toNat i_s12_l39) x45).set (Int.toNat (IntKind.i64.wrap (i_s12_l39 + 1))) x49)), IntKind.i64.wrap (i_s12_l39 + 1)), ⟨rfl, rfl, rfl, rfl, rfl, rfl, trivial⟩, ⟨hn39, hev, hms, hfr, hf7_1, hb9, ho12⟩, Nat.lt_succ_self _⟩
    replace h := ite_f hb h
    refine c_exit ?_
    refine k_then_exit ?_
    have hx := some_inj h
    subst hx
    have hy := some_inj hn39
    subst hy
    replace h := h39
    refine k_then_exit ?_
    refine k_block_in ?_
    refine k_block ?_
    refine k_then ?_
    refine c_norm [(4, .pointer (some ⟨b9, 0, none⟩)), (5, .slice a12 (d13_l39).length c12), (64, .int .i64 ((d13_l15).length : Int)), (65, .int .i64 t65__s65_l37)] ⟨rfl, rfl, rfl, rfl, trivial⟩ (fun J => ?_)
    refine c_plain ?_
    refine x_pure 2 [(148, .int .i64 (IntKind.i64.wrap (t65__s65_l37 + 1))), (65, .int .i64 (IntKind.i64.wrap (t65__s65_l37 + 1)))] _ _ _ (by kernel_rfl) ?_
    refine x_end rfl ?_
    have hx := some_inj h
    subst hx
    exact k_then ⟨(m37, d13_l39, IntKind.i64.wrap (t65__s65_l37 + 1)), ⟨rfl, rfl, rfl, rfl, trivial⟩, ⟨hn37, hev, hms, hfr, hf7_1, hb9, ho12⟩, Nat.lt_succ_self _⟩
  replace h := ite_f hb h
  refine c_exit ?_
  refine k_then_exit ?_
  have hx := some_inj h
  subst hx
  have hy := some_inj hn37
  subst hy
  replace h := h37
  refine k_then_exit ?_
  refine k_block_in ?_
  refine k_then ?_
  refine c_norm [] trivial (fun J => ?_)
  refine c_seq (c_plain ?_)
  obtain ⟨x77, hx, h⟩ := bind_some h
  have hcall := law11_sane_w _ wl37 hx
  refine x_call 12 #[] #[] [] _ rfl rfl rfl rfl hcall ?_
  rintro v w78 ⟨rfl, he78⟩
  clear hcall hx
  refine ⟨.inl rfl, ?_⟩
  have hst := Stp.ext (ls := [[b9], B13_l15, M]) he78
  replace hb9 := he78.box hb9 nn
  replace hf7_1 := hf7_1.step hst
  replace ho12 := ho12.step (plain_int _) he78 nn2
  replace hms := hms.ev he78
  replace hev := hev.ext he78
  refine x_pure 1 [(2, .bool x77)] _ _ _ (by kernel_rfl) ?_
  refine x_end rfl (k_then ?_)
  refine c_ret ?_
  refine r_ret (r_vals [.bool x77] ⟨rfl, trivial⟩ ?_)
  have hx := some_inj h
  subst hx
  have hmr : MS w78 [M] := hms.pick [some 2] _ rfl
  have hsu : ∀ x ∈ fl [M], x ∈ fl [[b9], B13_l15, M] := pick_sub [some 2] _ rfl
  exact ⟨rfl, hev⟩
end Go.Proofs.Ytacimonplnlmgaa
