/- Walks, printed by program: each function returns what the partial function of the same name returns. Conditions: those of each theorem. -/
import Derived.Test.YtgdaanhiagoonaaGT
import Derived.Test.YtgdaanhiagoonaaGcode
import Derived.Test.YtgdaanhiagoonaaGgen
import Derived.Test.YtgdaanhiagoonaaGjob
import Derived.Test.YtgdaanhiagoonaaGlaw13sane
import Derived.Test.YtgdaanhiagoonaaGleastcode
set_option linter.unusedVariables false
set_option linter.unusedSimpArgs false
set_option maxRecDepth 4000
namespace Go.Proofs.Ytgdaanhiagoonaa
open Go Go.V Go.Proofs
def law13_LeastcodeLevels_L28 (x6 : ((List (Int × Int × Int × Int)) × Int) × Int) (x17 : (List Int) × Int) (x20 : (Int × (List Int)) × Int) (s : Int) : Option (Step Int (Bool ⊕ Unit)) :=
match s with
| t50__s50_l28 =>
(if (decide (t50__s50_l28 < ((x17.1).length : Int))) = true then
((idx x17.1 t50__s50_l28).bind fun x30 =>
((code_Nth x30 0 x6.1.2).bind fun x32 =>
(if (x32.2 != 0) = true then
(if (x20.2 == 15) = true then
((law13_sane).bind fun x35 =>
some (.done (.inl x35)))
else
some (.done (.inl false)))
else
(if (x20.2 == 0) = true then
(if (decide (t50__s50_l28 ≥ ((x20.1.2).length : Int))) = true then
some (.done (.inl false))
else
((idx x20.1.2 t50__s50_l28).bind fun x37 =>
(if (x37 != x32.1) = true then
some (.done (.inl false))
else
some (.next (IntKind.i64.wrap (t50__s50_l28 + 1))))))
else
some (.next (IntKind.i64.wrap (t50__s50_l28 + 1)))))))
else
some (.done (.inr ())))

def law13_LeastcodeLevels_L13 (x6 : ((List (Int × Int × Int × Int)) × Int) × Int) (s : (List (Int × Int × Int × Int)) × Int) : Option (Step ((List (Int × Int × Int × Int)) × Int) (List (Int × Int × Int × Int))) :=
match s with
| (d8_l13, t19__s19_l13) =>
(if (decide (t19__s19_l13 < ((x6.1.1).length : Int))) = true then
((idx d8_l13 t19__s19_l13).bind fun x14 =>
some (.next ((d8_l13.set (Int.toNat t19__s19_l13) (x14.1, x14.2.1, 0, x14.2.2.2)), IntKind.i64.wrap (t19__s19_l13 + 1))))
else
some (.done d8_l13))

def law13_LeastcodeLevels (p0 : List Int) : Option Bool :=
((gen_New p0).bind fun x2 =>
((gen_Maker_Job x2.1 x2.2 14).bind fun x6 =>
((loop (law13_LeastcodeLevels_L13 x6) (x6.1.1, 0)).bind fun d => match d with
| d8_x13 => ((job_Levels d8_x13 x6.1.2).bind fun x17 =>
((leastcode_Least d8_x13 x6.1.2).bind fun x20 =>
(if (x17.2 != 0) = true then
some false
else
(if (((x17.1).length : Int) != ((d8_x13).length : Int)) = true then
some false
else
((loop (law13_LeastcodeLevels_L28 x6 x17 x20) 0).bind fun d => match d with
| (.inl t2__s2_x2800) => some t2__s2_x2800
| (.inr _) => (if (x20.2 == 0) = true then
(if (((x20.1.2).length : Int) == ((x17.1).length : Int)) = true then
((law13_sane).bind fun x39 =>
some x39)
else
some false)
else
some false)))))))))

theorem law13_LeastcodeLevels_w (a_p0 : Option Addr) (c_p0 : Nat) (p0 : List Int) (r : Bool) (w : World) (M : List Nat) (hms : MS w [M]) (hs_p0 : SlR (eInt .i64) w (fl [M]) a_p0 c_p0 p0) (h : law13_LeastcodeLevels p0 = some r) : CallVC Try.prog 11 [.slice a_p0 (p0).length c_p0] w fun v w' => v = .bool r ∧ Ev [] w w' := by
  refine calls_vc hmx Try.func11 (by kernel_rfl) rfl (rs := [.tmp 2]) rfl (by kernel_rfl) (args := [.slice a_p0 (p0).length c_p0]) rfl ?_
  have hev : Ev [] w w := Ev.refl _ _
  have hfr : FR w.heap.size [] := FR.nil _
  refine c_seq (c_plain ?_)
  refine x_pure 1 [(2, .bool false)] _ _ _ (by kernel_rfl) ?_
  refine x_end rfl (k_then ?_)
  refine c_seq (c_plain ?_)
  refine x_pure 1 [(13, .slice a_p0 (p0).length c_p0)] _ _ _ (by kernel_rfl) ?_
  obtain ⟨x2, hx, h⟩ := bind_some h
  have hpk : MS w ([] ++ [M]) := hms.pick [some 0] _ rfl
  have hsb0 : ∀ x ∈ fl ([] ++ [M]), x ∈ fl [M] := pick_sub [some 0] _ rfl
  have hsb : ∀ x ∈ fl ([] ++ [(fl [M])]), x ∈ fl [M] := fun x hx => hsb0 x (fl_unfold x hx)
  have hcall := gen_New_w a_p0 c_p0 p0 _ w (fl [M]) (MS.fold (P := []) hpk) (hs_p0.sub hsb) hx
  refine x_call 14 #[] #[] [.slice a_p0 (p0).length c_p0] _ rfl rfl rfl rfl hcall ?_
  rintro v w3 ⟨b0_3, a1_3, c1_3, rfl, he3, hmn3, hfn3, hf3_1, hf3_2⟩
  clear hcall hx
  refine ⟨.inl rfl, ?_⟩
  have hpk2 : MS w ([] ++ [M]) := hms.pick [some 0] _ rfl
  have hsb2 : ∀ x ∈ fl ([] ++ [M]), x ∈ fl [M] := pick_sub [some 0] _ rfl
  have hst0 := Stp.call (LS := [M]) (res := [[b0_3]]) (par := []) (R := [M]) he3 (fun b hb => hsb2 b (fl_left' (P := []) b hb)) hfn3 (NP.init _ _) (fun x hx => hsb2 x (fl_right' (P := []) x hx))
  have hsn : ∀ x ∈ fl [[b0_3], M], x ∈ fl ([[b0_3]] ++ ([] ++ [M])) := pick_sub [some 0, some 1] _ rfl
  have hst := hst0.res hsn
  replace hs_p0 := hs_p0.step hst
  replace hms : MS w3 [[b0_3], M] := (MS.call (P := []) (R := [M]) (res := [[b0_3]]) (par := []) hpk2 he3 hmn3 hfn3 (NP.init _ _)).pick [some 0, some 1] _ rfl
  have hfr2 : FR w.heap.size [[b0_3]] := (FR.cons (fun b hb => Nat.le_trans hev.size (hfn3.at 0 rfl b hb)) (FR.nil _))
  replace hev := hev.ext he3
  replace hfr := hfr2
  clear hfr2
  have hsp : ∀ x ∈ fl [[b0_3], M], x ∈ fl ([[b0_3]] ++ ([] ++ [(fl [M])])) := fun x hx => fl_tot (res := [[b0_3]]) (par := []) (R := [M]) x (hsn x hx)
  replace hf3_2 := hf3_2.sub hsp
  clear hpk hsb hsb0 hpk2 hsb2 hst0 hsn hst
  obtain ⟨x6, hx, h⟩ := bind_some h
  have hpk : MS w3 ([[b0_3]] ++ [M]) := hms.pick [some 0, some 1] _ rfl
  have hsb0 : ∀ x ∈ fl ([[b0_3]] ++ [M]), x ∈ fl [[b0_3], M] := pick_sub [some 0, some 1] _ rfl
  have hsb : ∀ x ∈ fl ([[b0_3]] ++ [(fl [M])]), x ∈ fl [[b0_3], M] := fun x hx => hsb0 x (fl_unfold x hx)
  have hcall := gen_Maker_Job_w b0_3 a1_3 c1_3 x2.1 x2.2 14 _ w3 (fl [M]) (hpk.fold (P := [[b0_3]])) (hf3_2.sub hsb) hf3_1 hx
  refine x_call 15 #[] #[] [.pointer (some ⟨b0_3, 0, none⟩), .int .i64 14] _ rfl rfl rfl rfl hcall ?_
  rintro v w7 ⟨a0_7, c0_7, rfl, he7, hp7_0, hmn7, hfn7, hf7_1⟩
  clear hcall hx
  refine ⟨.inl rfl, ?_⟩
  have hpk2 : MS w3 ([[b0_3]] ++ [M]) := hms.pick [some 0, some 1] _ rfl
  have hsb2 : ∀ x ∈ fl ([[b0_3]] ++ [M]), x ∈ fl [[b0_3], M] := pick_sub [some 0, some 1] _ rfl
  have hst0 := Stp.call (LS := [[b0_3], M]) (res := [blk a0_7]) (par := [[b0_3]]) (R := [M]) he7 (fun b hb => hsb2 b (fl_left' (P := [[b0_3]]) b hb)) hfn7 (NP.init _ _) (fun x hx => hsb2 x (fl_right' (P := [[b0_3]]) x hx))
  have hsn : ∀ x ∈ fl [blk a0_7, [b0_3], M], x ∈ fl ([blk a0_7] ++ ([[b0_3]] ++ [M])) := pick_sub [some 0, some 1, some 2] _ rfl
  have hst := hst0.res hsn
  replace hs_p0 := hs_p0.step hst
  replace hf3_2 := hf3_2.step hst
  replace hms : MS w7 [blk a0_7, [b0_3], M] := (MS.call (P := [[b0_3]]) (R := [M]) (res := [blk a0_7]) (par := [[b0_3]]) hpk2 he7 hmn7 hfn7 (NP.init _ _)).pick [some 0, some 1, some 2] _ rfl
  have hPf : ∀ b ∈ fl [[b0_3]], w.heap.size ≤ b := FR.mem (ls := [[b0_3]]) (hfr.pick [some 0] _ rfl)
  have hfr2 : FR w.heap.size [blk a0_7, [b0_3]] := (FR.cons (fun b hb => Nat.le_trans hev.size (hfn7.at 0 rfl b hb)) (FR.cons (hfr.at 0 rfl) (FR.nil _)))
  replace hev := hev.then he7 (fun b hb => .inr (hPf b hb))
  replace hfr := hfr2
  clear hfr2
  replace hf3_1 := hp7_0
  replace hf7_1 := OwnS.plain (M' := fl [blk a0_7, [b0_3], M]) (plain_prod (plain_int _) (plain_prod (plain_int _) (plain_prod (plain_int _) (plain_int _)))) hf7_1
  clear hpk hsb hsb0 hpk2 hsb2 hst0 hsn hst
  refine x_alloc (z := .agg #[.slice none 0 0, .int .i64 0]) rfl rfl (by kernel_rfl) (fun b9 w9 hq9 hb9 he9 hz9 => ?_)
  replace hb9 : w9.heap[b9]? = some (.cells #[.slice none 0 0, .int .i64 0] 24 (0, 0)) := hb9
  refine ⟨.inl rfl, ?_⟩
  have hst := Stp.box (ls := [blk a0_7, [b0_3], M]) he9 hq9
  replace hs_p0 := hs_p0.step hst
  replace hf3_1 := he9.box hf3_1 nn
  replace hf3_2 := hf3_2.step hst
  replace hf7_1 := hf7_1.step hst he9 nn2
  replace hms := hms.box he9 hq9 hb9
  replace hfr := hfr.box hev.size hq9
  replace hev := hev.ext he9
  obtain ⟨w11, hr11, hb11, he11⟩ := store_boxagg 0 [.slice a0_7 (x6.1.1).length c0_7, .int .i64 x6.1.2] #[.slice a0_7 (x6.1.1).length c0_7, .int .i64 x6.1.2] tagg24 hb9 rfl rfl rfl
  refine x_store w11 (xv := .pointer (some ⟨b9, 0, none⟩)) (yv := .agg #[.slice a0_7 (x6.1.1).length c0_7, .int .i64 x6.1.2]) rfl rfl rfl rfl hr11 ?_
  refine ⟨.inl rfl, ?_⟩
  have hst := Stp.ev' (ls := [[b9], blk a0_7, [b0_3], M]) he11 (mem_flat 0 rfl)
  replace hs_p0 := hs_p0.step hst
  replace hf3_1 := he11.box hf3_1 (hms.apart 2 0 rfl rfl rfl _ (List.mem_singleton.2 rfl))
  replace hf3_2 := hf3_2.step hst
  replace hf7_1 := hf7_1.step hst he11 (hms.apart 1 0 rfl rfl rfl)
  replace hms := hms.ev he11
  replace hev := hev.then he11 (fun b hb => .inr (hfr.at 0 rfl b hb))
  replace hb9 := hb11
  refine x_end rfl (k_then ?_)
  refine c_seq ?_
  refine c_seq (c_plain ?_)
  refine x_fieldAddr (xv := .pointer (some ⟨b9, 0, none⟩)) (.pointer (some ⟨b9, 0, none⟩)) rfl rfl rfl (reads_field tfld24_0 _ _) ?_
  refine x_load (xv := .pointer (some ⟨b9, 0, none⟩)) (.slice a0_7 (x6.1.1).length c0_7) rfl rfl rfl (reads_box tcell22 hb9 nn 0 _ rfl) ?_
  refine x_len (vs := [.slice a0_7 (x6.1.1).length c0_7]) (.int .i64 ((x6.1.1).length : Int)) rfl rfl rfl (reads_len tsl22 _ _ _ _ _) ?_
  refine x_pure 1 [(19, .int .i64 0)] _ _ _ (by kernel_rfl) ?_
  refine x_end rfl (k_then ?_)
  refine c_block ?_
  have hpk : MS w11 [blk a0_7, [b9], M] := hms.pick [some 1, some 0, some 3] _ rfl
  have hsu : ∀ x ∈ fl [blk a0_7, [b9], M], x ∈ fl [[b9], blk a0_7, [b0_3], M] := pick_sub [some 1, some 0, some 3] _ rfl
  replace hf7_1 := hf7_1.sub hsu
  replace hms := hpk
  replace hfr : FR w.heap.size [blk a0_7, [b9]] := hfr.pick [some 1, some 0] _ rfl
  clear hpk hsu
  obtain ⟨d13, hd13, h13⟩ := bind_some h
  obtain ⟨m13, hd13⟩ := loop_some hd13
  refine c_loop (loop_rule hmx (σ := Nat × (List (Int × Int × Int × Int)) × Int × Option Addr) (fun s => match s with | (_, d8_l13, t19__s19_l13, a8_l13) => [(3, .pointer (some ⟨b9, 0, none⟩)), (18, .int .i64 ((x6.1.1).length : Int)), (19, .int .i64 t19__s19_l13)]) (fun s w' => match s with | (m, d8_l13, t19__s19_l13, a8_l13) => loopN (law13_LeastcodeLevels_L13 x6) m (d8_l13, t19__s19_l13) = some d13 ∧ Ev [] w w' ∧ MS w' [blk a8_l13, [b9], M] ∧ FR w.heap.size [blk a8_l13, [b9]] ∧ OwnS (eProd (eInt .i64) (eProd (eInt .i64) (eProd (eInt .i64) (eInt .i64)))) 26 w' (fl [blk a8_l13, [b9], M]) a8_l13 c0_7 d8_l13 ∧ w'.heap[b9]? = some (.cells #[.slice a8_l13 (d8_l13).length c0_7, .int .i64 x6.1.2] 24 (0, 0))) (fun s => s.1) (m13, x6.1.1, 0, a0_7) ⟨rfl, rfl, rfl, trivial⟩ ⟨hd13, hev, hms, hfr, hf7_1, hb9⟩ ?_)
  rintro ⟨m13, d8_l13, t19__s19_l13, a8_l13⟩ J wl13 ⟨hn13, hev, hms, hfr, hf7_1, hb9⟩
  rcases m13 with _ | m13
  · exact (loopN_zero hn13).elim
  obtain ⟨t13, h, hn13⟩ := bind_some hn13
  refine c_seq (c_plain ?_)
  refine x_pure 1 [(20, .bool (decide (t19__s19_l13 < ((x6.1.1).length : Int))))] _ _ _ (by kernel_rfl) ?_
  refine x_end rfl (k_then ?_)
  refine c_norm [(3, .pointer (some ⟨b9, 0, none⟩)), (18, .int .i64 ((x6.1.1).length : Int)), (19, .int .i64 t19__s19_l13), (20, .bool (decide (t19__s19_l13 < ((x6.1.1).length : Int))))] ⟨rfl, rfl, rfl, rfl, trivial⟩ (fun J => ?_)
  refine c_seq ?_
  refine c_cond (decide (t19__s19_l13 < ((x6.1.1).length : Int))) rfl (fun hb => ?_) (fun hb => ?_)
  · replace h := ite_t hb h
    refine c_skip ?_
    refine k_then ?_
    refine c_seq ?_
    refine c_block ?_
    refine c_seq (c_plain ?_)
    refine x_pure 2 [(21, .int .i64 t19__s19_l13), (4, .int .i64 t19__s19_l13)] _ _ _ (by kernel_rfl) ?_
    refine x_end rfl (k_then ?_)
    refine c_plain ?_
    refine x_fieldAddr (xv := .pointer (some ⟨b9, 0, none⟩)) (.pointer (some ⟨b9, 0, none⟩)) rfl rfl rfl (reads_field tfld24_0 _ _) ?_
    refine x_load (xv := .pointer (some ⟨b9, 0, none⟩)) (.slice a8_l13 (d8_l13).length c0_7) rfl rfl rfl (reads_box tcell22 hb9 nn 0 _ rfl) ?_
    refine x_pure 1 [(24, .int .i64 t19__s19_l13)] _ _ _ (by kernel_rfl) ?_
    obtain ⟨x14, hx14, h⟩ := bind_some h
    obtain ⟨g14, cs14, ha, hr14, hc14, hR⟩ := own_index (Mo := []) tsl22 hf7_1 hx14
    subst ha
    obtain ⟨_, _, rfl, rfl, ⟨_, _, rfl, rfl, ⟨_, _, rfl, rfl, rfl⟩⟩⟩ := hR
    refine x_indexAddr (xv := .slice (some ⟨g14, 0, none⟩) (d8_l13).length c0_7) (yv := .int .i64 t19__s19_l13) (.pointer (some ⟨g14, (Int.toNat t19__s19_l13) * (eProd (eInt .i64) (eProd (eInt .i64) (eProd (eInt .i64) (eInt .i64)))).n, none⟩)) rfl rfl rfl rfl hr14 ?_
    refine x_fieldAddr (xv := .pointer (some ⟨g14, (Int.toNat t19__s19_l13) * (eProd (eInt .i64) (eProd (eInt .i64) (eProd (eInt .i64) (eInt .i64)))).n, none⟩)) (.pointer (some ⟨g14, (Int.toNat t19__s19_l13) * (eProd (eInt .i64) (eProd (eInt .i64) (eProd (eInt .i64) (eInt .i64)))).n + 2, none⟩)) rfl rfl rfl (reads_field tfld26_2 _ _) ?_
    obtain ⟨w16, hr16, he16, ho16⟩ := own_store (y := (x14.1, x14.2.1, 0, x14.2.2.2)) 2 (.int .i64 0) tcell3 hf7_1 (mem_flat 0 rfl _ (List.mem_singleton.2 rfl)) hx14 rfl rfl (by intro w M cs hR; obtain ⟨_, _, rfl, rfl, ⟨_, _, rfl, rfl, ⟨_, _, rfl, rfl, rfl⟩⟩⟩ := hR; exact ⟨[_], _, rfl, rfl, ⟨[_], _, rfl, rfl, ⟨[_], _, rfl, rfl, rfl⟩⟩⟩)
    refine x_store w16 (xv := .pointer (some ⟨g14, (Int.toNat t19__s19_l13) * (eProd (eInt .i64) (eProd (eInt .i64) (eProd (eInt .i64) (eInt .i64)))).n + 2, none⟩)) (yv := .int .i64 0) rfl rfl rfl rfl hr16 ?_
    refine ⟨.inl rfl, ?_⟩
    replace hb9 := he16.box hb9 (hms.apart 1 0 rfl rfl rfl _ (List.mem_singleton.2 rfl))
    replace hms := hms.ev he16
    replace hev := hev.then he16 (fun b hb => .inr (hfr.at 0 rfl b hb))
    replace hf7_1 := ho16
    have hsl : (Value.slice (some ⟨g14, 0, none⟩) (d8_l13).length c0_7) = (Value.slice (some ⟨g14, 0, none⟩) ((d8_l13.set (Int.toNat t19__s19_l13) (x14.1, x14.2.1, 0, x14.2.2.2))).length c0_7) := by first | (rw [List.length_set]; done) | simp only [List.length_set]
    rw [hsl] at hb9
    try rw [hsl]
    clear hsl
    refine x_end rfl ?_
    refine k_block ?_
    refine k_then ?_
    refine c_plain ?_
    refine x_pure 2 [(27, .int .i64 (IntKind.i64.wrap (t19__s19_l13 + 1))), (19, .int .i64 (IntKind.i64.wrap (t19__s19_l13 + 1)))] _ _ _ (by kernel_rfl) ?_
    refine x_end rfl ?_
    have hx := some_inj h
    subst hx
    exact k_then ⟨(m13, (d8_l13.set (Int.toNat t19__s19_l13) (x14.1, x14.2.1, 0, x14.2.2.2)), IntKind.i64.wrap (t19__s19_l13 + 1), (some ⟨g14, 0, none⟩)), ⟨rfl, rfl, rfl, trivial⟩, ⟨hn13, hev, hms, hfr, hf7_1, hb9⟩, Nat.lt_succ_self _⟩
  replace h := ite_f hb h
  refine c_exit ?_
  refine k_then_exit ?_
  have hx := some_inj h
  subst hx
  have hy := some_inj hn13
  subst hy
  replace h := h13
  refine k_then_exit ?_
  refine k_block_in ?_
  refine k_then ?_
  refine c_norm [(3, .pointer (some ⟨b9, 0, none⟩))] ⟨rfl, trivial⟩ (fun J => ?_)
  refine c_seq (c_plain ?_)
  refine x_load (xv := .pointer (some ⟨b9, 0, none⟩)) (.agg #[.slice a8_l13 (d8_l13).length c0_7, .int .i64 x6.1.2]) rfl rfl rfl (reads_boxagg 0 [.slice a8_l13 (d8_l13).length c0_7, .int .i64 x6.1.2] tagg24 hb9 nn rfl) ?_
  obtain ⟨x17, hx, h⟩ := bind_some h
  have hpk : MS wl13 ([] ++ [[b9], M]) := hms.pick [some 1, some 2] _ rfl
  have hsb0 : ∀ x ∈ fl ([] ++ [[b9], M]), x ∈ fl [blk a8_l13, [b9], M] := pick_sub [some 1, some 2] _ rfl
  have hsb : ∀ x ∈ fl ([] ++ [(fl [[b9], M])]), x ∈ fl [blk a8_l13, [b9], M] := fun x hx => hsb0 x (fl_unfold x hx)
  have hcall := job_Levels_w a8_l13 c0_7 d8_l13 x6.1.2 _ wl13 (fl [[b9], M]) (MS.fold (P := []) hpk) (hf7_1.ro hsb (fun b hb hb2 => pick_out hms 0 rfl [some 1, some 2] ([] ++ [[b9], M]) rfl rfl b hb (fl_unfold b hb2))) hx
  refine x_call 34 #[] #[] [.agg #[.slice a8_l13 (d8_l13).length c0_7, .int .i64 x6.1.2]] _ rfl rfl rfl rfl hcall ?_
  rintro v w18 ⟨a0_18, c0_18, rfl, he18, hmn18, hfn18, hf18_1⟩
  clear hcall hx
  refine ⟨.inl rfl, ?_⟩
  have hpk2 : MS wl13 ([] ++ [blk a8_l13, [b9], M]) := hms.pick [some 0, some 1, some 2] _ rfl
  have hsb2 : ∀ x ∈ fl ([] ++ [blk a8_l13, [b9], M]), x ∈ fl [blk a8_l13, [b9], M] := pick_sub [some 0, some 1, some 2] _ rfl
  have hst0 := Stp.call (LS := [blk a8_l13, [b9], M]) (res := [blk a0_18]) (par := []) (R := [blk a8_l13, [b9], M]) he18 (fun b hb => hsb2 b (fl_left' (P := []) b hb)) hfn18 (NP.init _ _) (fun x hx => hsb2 x (fl_right' (P := []) x hx))
  have hsn : ∀ x ∈ fl [blk a0_18, blk a8_l13, [b9], M], x ∈ fl ([blk a0_18] ++ ([] ++ [blk a8_l13, [b9], M])) := pick_sub [some 0, some 1, some 2, some 3] _ rfl
  have hst := hst0.res hsn
  replace hb9 := he18.box hb9 ((MS.outs (P := []) hpk2 1 rfl) _ (List.mem_singleton.2 rfl))
  replace hf7_1 := hf7_1.step hst he18 (MS.outs (P := []) hpk2 0 rfl)
  replace hms : MS w18 [blk a0_18, blk a8_l13, [b9], M] := (MS.call (P := []) (R := [blk a8_l13, [b9], M]) (res := [blk a0_18]) (par := []) hpk2 he18 hmn18 hfn18 (NP.init _ _)).pick [some 0, some 1, some 2, some 3] _ rfl
  have hfr2 : FR w.heap.size [blk a0_18, blk a8_l13, [b9]] := (FR.cons (fun b hb => Nat.le_trans hev.size (hfn18.at 0 rfl b hb)) (FR.cons (hfr.at 0 rfl) (FR.cons (hfr.at 1 rfl) (FR.nil _))))
  replace hev := hev.ext he18
  replace hfr := hfr2
  clear hfr2
  replace hf18_1 := OwnS.plain (M' := fl [blk a0_18, blk a8_l13, [b9], M]) (plain_int _) hf18_1
  clear hpk hsb hsb0 hpk2 hsb2 hst0 hsn hst
  have hpk : MS w18 [blk a8_l13, [b9], M] := hms.pick [some 1, some 2, some 3] _ rfl
  have hsu : ∀ x ∈ fl [blk a8_l13, [b9], M], x ∈ fl [blk a0_18, blk a8_l13, [b9], M] := pick_sub [some 1, some 2, some 3] _ rfl
  replace hf7_1 := hf7_1.sub hsu
  replace hf18_1 := hf18_1.ro hsu (pick_out hms 0 rfl [some 1, some 2, some 3] [blk a8_l13, [b9], M] rfl rfl)
  replace hms := hpk
  replace hfr : FR w.heap.size [blk a8_l13, [b9]] := hfr.pick [some 1, some 2] _ rfl
  clear hpk hsu
  refine x_pure 5 [(28, .tuple #[.slice a0_18 (x17.1).length c0_18, .int .i64 x17.2]), (31, .slice a0_18 (x17.1).length c0_18), (32, .int .i64 x17.2), (5, .slice a0_18 (x17.1).length c0_18), (6, .int .i64 x17.2)] _ _ _ (by kernel_rfl) ?_
  refine x_end rfl (k_then ?_)
  refine c_seq (c_plain ?_)
  refine x_load (xv := .pointer (some ⟨b9, 0, none⟩)) (.agg #[.slice a8_l13 (d8_l13).length c0_7, .int .i64 x6.1.2]) rfl rfl rfl (reads_boxagg 0 [.slice a8_l13 (d8_l13).length c0_7, .int .i64 x6.1.2] tagg24 hb9 nn rfl) ?_
  obtain ⟨x20, hx, h⟩ := bind_some h
  have hpk : MS w18 ([] ++ [[b9], M]) := hms.pick [some 1, some 2] _ rfl
  have hsb0 : ∀ x ∈ fl ([] ++ [[b9], M]), x ∈ fl [blk a8_l13, [b9], M] := pick_sub [some 1, some 2] _ rfl
  have hsb : ∀ x ∈ fl ([] ++ [(fl [[b9], M])]), x ∈ fl [blk a8_l13, [b9], M] := fun x hx => hsb0 x (fl_unfold x hx)
  have hcall := leastcode_Least_w a8_l13 c0_7 d8_l13 x6.1.2 _ w18 (fl [[b9], M]) (MS.fold (P := []) hpk) (hf7_1.ro hsb (fun b hb hb2 => pick_out hms 0 rfl [some 1, some 2] ([] ++ [[b9], M]) rfl rfl b hb (fl_unfold b hb2))) hx
  refine x_call 12 #[] #[] [.agg #[.slice a8_l13 (d8_l13).length c0_7, .int .i64 x6.1.2]] _ rfl rfl rfl rfl hcall ?_
  rintro v w21 ⟨a0_21, c0_21, rfl, he21, hmn21, hfn21, hf21_1⟩
  clear hcall hx
  refine ⟨.inl rfl, ?_⟩
  have hpk2 : MS w18 ([] ++ [blk a8_l13, [b9], M]) := hms.pick [some 0, some 1, some 2] _ rfl
  have hsb2 : ∀ x ∈ fl ([] ++ [blk a8_l13, [b9], M]), x ∈ fl [blk a8_l13, [b9], M] := pick_sub [some 0, some 1, some 2] _ rfl
  have hst0 := Stp.call (LS := [blk a8_l13, [b9], M]) (res := [blk a0_21]) (par := []) (R := [blk a8_l13, [b9], M]) he21 (fun b hb => hsb2 b (fl_left' (P := []) b hb)) hfn21 (NP.init _ _) (fun x hx => hsb2 x (fl_right' (P := []) x hx))
  have hsn : ∀ x ∈ fl [blk a0_21, blk a8_l13, [b9], M], x ∈ fl ([blk a0_21] ++ ([] ++ [blk a8_l13, [b9], M])) := pick_sub [some 0, some 1, some 2, some 3] _ rfl
  have hst := hst0.res hsn
  replace hb9 := he21.box hb9 ((MS.outs (P := []) hpk2 1 rfl) _ (List.mem_singleton.2 rfl))
  replace hf7_1 := hf7_1.step hst he21 (MS.outs (P := []) hpk2 0 rfl)
  replace hf18_1 := hf18_1.step hst
  replace hms : MS w21 [blk a0_21, blk a8_l13, [b9], M] := (MS.call (P := []) (R := [blk a8_l13, [b9], M]) (res := [blk a0_21]) (par := []) hpk2 he21 hmn21 hfn21 (NP.init _ _)).pick [some 0, some 1, some 2, some 3] _ rfl
  have hfr2 : FR w.heap.size [blk a0_21, blk a8_l13, [b9]] := (FR.cons (fun b hb => Nat.le_trans hev.size (hfn21.at 0 rfl b hb)) (FR.cons (hfr.at 0 rfl) (FR.cons (hfr.at 1 rfl) (FR.nil _))))
  replace hev := hev.ext he21
  replace hfr := hfr2
  clear hfr2
  replace hf21_1 := OwnS.plain (M' := fl [blk a0_21, blk a8_l13, [b9], M]) (plain_int _) hf21_1
  clear hpk hsb hsb0 hpk2 hsb2 hst0 hsn hst
  have hpk : MS w21 [blk a8_l13, [b9], M] := hms.pick [some 1, some 2, some 3] _ rfl
  have hsu : ∀ x ∈ fl [blk a8_l13, [b9], M], x ∈ fl [blk a0_21, blk a8_l13, [b9], M] := pick_sub [some 1, some 2, some 3] _ rfl
  replace hf7_1 := hf7_1.sub hsu
  replace hf18_1 := hf18_1.sub hsu
  replace hf21_1 := hf21_1.ro hsu (pick_out hms 0 rfl [some 1, some 2, some 3] [blk a8_l13, [b9], M] rfl rfl)
  replace hms := hpk
  replace hfr : FR w.heap.size [blk a8_l13, [b9]] := hfr.pick [some 1, some 2] _ rfl
  clear hpk hsu
  refine x_pure 3 [(33, .tuple #[.agg #[.int .i64 x20.1.1, .slice a0_21 (x20.1.2).length c0_21], .int .i64 x20.2]), (36, .agg #[.int .i64 x20.1.1, .slice a0_21 (x20.1.2).length c0_21]), (37, .int .i64 x20.2)] _ _ _ (by kernel_rfl) ?_
  refine x_alloc (z := .agg #[.int .i64 0, .slice none 0 0]) rfl rfl (by kernel_rfl) (fun b23 w23 hq23 hb23 he23 hz23 => ?_)
  replace hb23 : w23.heap[b23]? = some (.cells #[.int .i64 0, .slice none 0 0] 29 (0, 0)) := hb23
  refine ⟨.inl rfl, ?_⟩
  have hst := Stp.box (ls := [blk a8_l13, [b9], M]) he23 hq23
  replace hb9 := he23.box hb9 nn
  replace hf7_1 := hf7_1.step hst he23 nn2
  replace hf18_1 := hf18_1.step hst
  replace hf21_1 := hf21_1.step hst
  replace hms := hms.box he23 hq23 hb23
  replace hfr := hfr.box hev.size hq23
  replace hev := hev.ext he23
  obtain ⟨w25, hr25, hb25, he25⟩ := store_boxagg 0 [.int .i64 x20.1.1, .slice a0_21 (x20.1.2).length c0_21] #[.int .i64 x20.1.1, .slice a0_21 (x20.1.2).length c0_21] tagg29 hb23 rfl rfl rfl
  refine x_store w25 (xv := .pointer (some ⟨b23, 0, none⟩)) (yv := .agg #[.int .i64 x20.1.1, .slice a0_21 (x20.1.2).length c0_21]) rfl rfl rfl rfl hr25 ?_
  refine ⟨.inl rfl, ?_⟩
  have hst := Stp.ev' (ls := [[b23], blk a8_l13, [b9], M]) he25 (mem_flat 0 rfl)
  replace hb9 := he25.box hb9 (hms.apart 2 0 rfl rfl rfl _ (List.mem_singleton.2 rfl))
  replace hf7_1 := hf7_1.step hst he25 (hms.apart 1 0 rfl rfl rfl)
  replace hf18_1 := hf18_1.step hst
  replace hf21_1 := hf21_1.step hst
  replace hms := hms.ev he25
  replace hev := hev.then he25 (fun b hb => .inr (hfr.at 0 rfl b hb))
  replace hb23 := hb25
  refine x_pure 1 [(8, .int .i64 x20.2)] _ _ _ (by kernel_rfl) ?_
  refine x_end rfl (k_then ?_)
  refine c_norm [(3, .pointer (some ⟨b9, 0, none⟩)), (5, .slice a0_18 (x17.1).length c0_18), (6, .int .i64 x17.2), (7, .pointer (some ⟨b23, 0, none⟩)), (8, .int .i64 x20.2)] ⟨rfl, rfl, rfl, rfl, rfl, trivial⟩ (fun J => ?_)
  refine c_seq ?_
  refine c_seq (c_plain ?_)
  refine x_pure 3 [(38, .int .i64 x17.2), (39, .bool (x17.2 != 0)), (40, .bool (x17.2 != 0))] _ _ _ (by kernel_rfl) ?_
  refine x_split 40 (x17.2 != 0) rfl (fun hb => ?_) (fun hb => ?_)
  · replace h := ite_t hb h
    refine x_pure 7 [(41, undef), (42, undef), (43, undef), (44, undef), (45, undef), (46, undef), (47, .bool true)] _ _ _ (by kernel_rfl) ?_
    refine x_end rfl (k_then ?_)
    refine c_true rfl ?_
    refine c_seq (c_plain ?_)
    refine x_pure 1 [(2, .bool false)] _ _ _ (by kernel_rfl) ?_
    refine x_end rfl (k_then ?_)
    refine c_ret ?_
    refine k_then_ret ?_
    refine r_ret (r_vals [.bool false] ⟨rfl, trivial⟩ ?_)
    have hx := some_inj h
    subst hx
    have hmr : MS w25 [M] := hms.pick [some 3] _ rfl
    have hsu : ∀ x ∈ fl [M], x ∈ fl [[b23], blk a8_l13, [b9], M] := pick_sub [some 3] _ rfl
    exact ⟨rfl, hev⟩
  replace h := ite_f hb h
  refine x_pure 1 [(41, .slice a0_18 (x17.1).length c0_18)] _ _ _ (by kernel_rfl) ?_
  refine x_len (vs := [.slice a0_18 (x17.1).length c0_18]) (.int .i64 ((x17.1).length : Int)) rfl rfl rfl (reads_len tsl27 _ _ _ _ _) ?_
  refine x_fieldAddr (xv := .pointer (some ⟨b9, 0, none⟩)) (.pointer (some ⟨b9, 0, none⟩)) rfl rfl rfl (reads_field tfld24_0 _ _) ?_
  refine x_load (xv := .pointer (some ⟨b9, 0, none⟩)) (.slice a8_l13 (d8_l13).length c0_7) rfl rfl rfl (reads_box tcell22 hb9 nn 0 _ rfl) ?_
  refine x_len (vs := [.slice a8_l13 (d8_l13).length c0_7]) (.int .i64 ((d8_l13).length : Int)) rfl rfl rfl (reads_len tsl22 _ _ _ _ _) ?_
  refine x_pure 2 [(46, .bool (((x17.1).length : Int) != ((d8_l13).length : Int))), (47, .bool (((x17.1).length : Int) != ((d8_l13).length : Int)))] _ _ _ (by kernel_rfl) ?_
  refine x_end rfl (k_then ?_)
  refine c_cond (((x17.1).length : Int) != ((d8_l13).length : Int)) rfl (fun hb => ?_) (fun hb => ?_)
  · replace h := ite_t hb h
    refine c_seq (c_plain ?_)
    refine x_pure 1 [(2, .bool false)] _ _ _ (by kernel_rfl) ?_
    refine x_end rfl (k_then ?_)
    refine c_ret ?_
    refine k_then_ret ?_
    refine r_ret (r_vals [.bool false] ⟨rfl, trivial⟩ ?_)
    have hx := some_inj h
    subst hx
    have hmr : MS w25 [M] := hms.pick [some 3] _ rfl
    have hsu : ∀ x ∈ fl [M], x ∈ fl [[b23], blk a8_l13, [b9], M] := pick_sub [some 3] _ rfl
    exact ⟨rfl, hev⟩
  replace h := ite_f hb h
  refine c_skip ?_
  refine k_then ?_
  refine c_seq ?_
  refine c_seq (c_plain ?_)
  refine x_pure 1 [(48, .slice a0_18 (x17.1).length c0_18)] _ _ _ (by kernel_rfl) ?_
  refine x_len (vs := [.slice a0_18 (x17.1).length c0_18]) (.int .i64 ((x17.1).length : Int)) rfl rfl rfl (reads_len tsl27 _ _ _ _ _) ?_
  refine x_pure 1 [(50, .int .i64 0)] _ _ _ (by kernel_rfl) ?_
  refine x_end rfl (k_then ?_)
  refine c_norm [(3, .pointer (some ⟨b9, 0, none⟩)), (5, .slice a0_18 (x17.1).length c0_18), (7, .pointer (some ⟨b23, 0, none⟩)), (8, .int .i64 x20.2), (48, .slice a0_18 (x17.1).length c0_18), (49, .int .i64 ((x17.1).length : Int)), (50, .int .i64 0)] ⟨rfl, rfl, rfl, rfl, rfl, rfl, rfl, trivial⟩ (fun J => ?_)
  refine c_block ?_
  have hpk : MS w25 [blk a8_l13, [b9], [b23], M] := hms.pick [some 1, some 2, some 0, some 3] _ rfl
  have hsu : ∀ x ∈ fl [blk a8_l13, [b9], [b23], M], x ∈ fl [[b23], blk a8_l13, [b9], M] := pick_sub [some 1, some 2, some 0, some 3] _ rfl
  replace hf7_1 := hf7_1.sub hsu
  replace hf18_1 := hf18_1.sub hsu
  replace hf21_1 := hf21_1.sub hsu
  replace hms := hpk
  replace hfr : FR w.heap.size [blk a8_l13, [b9], [b23]] := hfr.pick [some 1, some 2, some 0] _ rfl
  clear hpk hsu
  obtain ⟨d28, hd28, h28⟩ := bind_some h
  obtain ⟨m28, hd28⟩ := loop_some hd28
  refine c_loop (loop_rule hmx (σ := Nat × Int) (fun s => match s with | (_, t50__s50_l28) => [(3, .pointer (some ⟨b9, 0, none⟩)), (5, .slice a0_18 (x17.1).length c0_18), (7, .pointer (some ⟨b23, 0, none⟩)), (8, .int .i64 x20.2), (48, .slice a0_18 (x17.1).length c0_18), (49, .int .i64 ((x17.1).length : Int)), (50, .int .i64 t50__s50_l28)]) (fun s w' => match s with | (m, t50__s50_l28) => loopN (law13_LeastcodeLevels_L28 x6 x17 x20) m t50__s50_l28 = some d28 ∧ Ev [] w w' ∧ MS w' [blk a8_l13, [b9], [b23], M] ∧ FR w.heap.size [blk a8_l13, [b9], [b23]] ∧ OwnS (eProd (eInt .i64) (eProd (eInt .i64) (eProd (eInt .i64) (eInt .i64)))) 26 w' (fl [blk a8_l13, [b9], [b23], M]) a8_l13 c0_7 d8_l13 ∧ w'.heap[b9]? = some (.cells #[.slice a8_l13 (d8_l13).length c0_7, .int .i64 x6.1.2] 24 (0, 0)) ∧ SlR (eInt .i64) w' (fl [blk a8_l13, [b9], [b23], M]) a0_18 c0_18 x17.1 ∧ SlR (eInt .i64) w' (fl [blk a8_l13, [b9], [b23], M]) a0_21 c0_21 x20.1.2 ∧ w'.heap[b23]? = some (.cells #[.int .i64 x20.1.1, .slice a0_21 (x20.1.2).length c0_21] 29 (0, 0))) (fun s => s.1) (m28, 0) ⟨rfl, rfl, rfl, rfl, rfl, rfl, rfl, trivial⟩ ⟨hd28, hev, hms, hfr, hf7_1, hb9, hf18_1, hf21_1, hb23⟩ ?_)
  rintro ⟨m28, t50__s50_l28⟩ J wl28 ⟨hn28, hev, hms, hfr, hf7_1, hb9, hf18_1, hf21_1, hb23⟩
  rcases m28 with _ | m28
  · exact (loopN_zero hn28).elim
  obtain ⟨t28, h, hn28⟩ := bind_some hn28
  refine c_seq (c_plain ?_)
  refine x_pure 1 [(51, .bool (decide (t50__s50_l28 < ((x17.1).length : Int))))] _ _ _ (by kernel_rfl) ?_
  refine x_end rfl (k_then ?_)
  refine c_norm [(3, .pointer (some ⟨b9, 0, none⟩)), (5, .slice a0_18 (x17.1).length c0_18), (7, .pointer (some ⟨b23, 0, none⟩)), (8, .int .i64 x20.2), (48, .slice a0_18 (x17.1).length c0_18), (49, .int .i64 ((x17.1).length : Int)), (50, .int .i64 t50__s50_l28), (51, .bool (decide (t50__s50_l28 < ((x17.1).length : Int))))] ⟨rfl, rfl, rfl, rfl, rfl, rfl, rfl, rfl, trivial⟩ (fun J => ?_)
  refine c_seq ?_
  refine c_cond (decide (t50__s50_l28 < ((x17.1).length : Int))) rfl (fun hb => ?_) (fun hb => ?_)
  · replace h := ite_t hb h
    refine c_skip ?_
    refine k_then ?_
    refine c_seq ?_
    refine c_block ?_
    refine c_seq (c_plain ?_)
    refine x_pure 1 [(52, .int .i64 t50__s50_l28)] _ _ _ (by kernel_rfl) ?_
    obtain ⟨x30, hx30, h⟩ := bind_some h
    obtain ⟨ad30, cs30, hr30, hc30, hR⟩ := reads_index (Mo := []) tsl27 hf18_1 hx30
    obtain rfl := hR
    refine x_indexAddr (xv := .slice a0_18 (x17.1).length c0_18) (yv := .int .i64 t50__s50_l28) (.pointer (some ad30)) rfl rfl rfl rfl hr30 ?_
    refine x_load (xv := .pointer (some ad30)) (.int .i64 x30) rfl rfl rfl (reads_cell0 tcell3 hc30 (fun _ h => by cases h)) ?_
    refine x_pure 2 [(9, .int .i64 t50__s50_l28), (10, .int .i64 x30)] _ _ _ (by kernel_rfl) ?_
    refine x_end rfl (k_then ?_)
    refine c_seq (c_plain ?_)
    refine x_pure 1 [(56, .int .i64 x30)] _ _ _ (by kernel_rfl) ?_
    refine x_fieldAddr (xv := .pointer (some ⟨b9, 0, none⟩)) (.pointer (some ⟨b9, 1, none⟩)) rfl rfl rfl (reads_field tfld24_1 _ _) ?_
    refine x_load (xv := .pointer (some ⟨b9, 1, none⟩)) (.int .i64 x6.1.2) rfl rfl rfl (reads_box tcell3 hb9 nn 1 _ rfl) ?_
    obtain ⟨x32, hx, h⟩ := bind_some h
    have hcall := code_Nth_w x30 0 x6.1.2 _ wl28 hx
    refine x_call 35 #[] #[] [.int .i64 x30, .int .i64 0, .int .i64 x6.1.2] _ rfl rfl rfl rfl hcall ?_
    rintro v w33 ⟨rfl, he33⟩
    clear hcall hx
    refine ⟨.inl rfl, ?_⟩
    have hst := Stp.ext (ls := [blk a8_l13, [b9], [b23], M]) he33
    replace hb9 := he33.box hb9 nn
    replace hf7_1 := hf7_1.step hst he33 nn2
    replace hf18_1 := hf18_1.step hst
    replace hb23 := he33.box hb23 nn
    replace hf21_1 := hf21_1.step hst
    replace hms := hms.ev he33
    replace hev := hev.ext he33
    refine x_pure 5 [(55, .tuple #[.int .i64 x32.1, .int .i64 x32.2]), (60, .int .i64 x32.1), (61, .int .i64 x32.2), (11, .int .i64 x32.1), (12, .int .i64 x32.2)] _ _ _ (by kernel_rfl) ?_
    refine x_end rfl (k_then ?_)
    refine c_norm [(3, .pointer (some ⟨b9, 0, none⟩)), (5, .slice a0_18 (x17.1).length c0_18), (7, .pointer (some ⟨b23, 0, none⟩)), (8, .int .i64 x20.2), (9, .int .i64 t50__s50_l28), (11, .int .i64 x32.1), (12, .int .i64 x32.2), (48, .slice a0_18 (x17.1).length c0_18), (49, .int .i64 ((x17.1).length : Int)), (50, .int .i64 t50__s50_l28)] ⟨rfl, rfl, rfl, rfl, rfl, rfl, rfl, rfl, rfl, rfl, trivial⟩ (fun J => ?_)
    refine c_seq ?_
    refine c_seq (c_plain ?_)
    refine x_pure 2 [(62, .int .i64 x32.2), (63, .bool (x32.2 != 0))] _ _ _ (by kernel_rfl) ?_
    refine x_end rfl (k_then ?_)
    refine c_cond (x32.2 != 0) rfl (fun hb => ?_) (fun hb => ?_)
    · replace h := ite_t hb h
      refine c_seq (c_plain ?_)
      refine x_pure 3 [(64, .int .i64 x20.2), (65, .bool (x20.2 == 15)), (66, .bool (x20.2 == 15))] _ _ _ (by kernel_rfl) ?_
      refine x_split 66 (x20.2 == 15) rfl (fun hb => ?_) (fun hb => ?_)
      · replace h := ite_t hb h
        obtain ⟨x35, hx, h⟩ := bind_some h
        have hcall := law13_sane_w _ w33 hx
        refine x_call 13 #[] #[] [] _ rfl rfl rfl rfl hcall ?_
        rintro v w36 ⟨rfl, he36⟩
        clear hcall hx
        refine ⟨.inl rfl, ?_⟩
        have hst := Stp.ext (ls := [blk a8_l13, [b9], [b23], M]) he36
        replace hb9 := he36.box hb9 nn
        replace hf7_1 := hf7_1.step hst he36 nn2
        replace hf18_1 := hf18_1.step hst
        replace hb23 := he36.box hb23 nn
        replace hf21_1 := hf21_1.step hst
        replace hms := hms.ev he36
        replace hev := hev.ext he36
        refine x_pure 2 [(68, .bool x35), (2, .bool x35)] _ _ _ (by kernel_rfl) ?_
        refine x_end rfl (k_then ?_)
        refine c_ret ?_
        refine k_then_ret ?_
        refine k_block_ret ?_
        refine k_then_ret ?_
        have hx := some_inj h
        subst hx
        have hy := some_inj hn28
        subst hy
        replace h := h28
        refine k_then_ret ?_
        refine k_block_ret ?_
        refine k_then_ret ?_
        refine r_ret (r_vals [.bool x35] ⟨rfl, trivial⟩ ?_)
        have hx := some_inj h
        subst hx
        have hmr : MS w36 [M] := hms.pick [some 3] _ rfl
        have hsu : ∀ x ∈ fl [M], x ∈ fl [blk a8_l13, [b9], [b23], M] := pick_sub [some 3] _ rfl
        exact ⟨rfl, hev⟩
      replace h := ite_f hb h
      refine x_pure 3 [(67, undef), (68, .bool false), (2, .bool false)] _ _ _ (by kernel_rfl) ?_
      refine x_end rfl (k_then ?_)
      refine c_ret ?_
      refine k_then_ret ?_
      refine k_block_ret ?_
      refine k_then_ret ?_
      have hx := some_inj h
      subst hx
      have hy := some_inj hn28
      subst hy
      replace h := h28
      refine k_then_ret ?_
      refine k_block_ret ?_
      refine k_then_ret ?_
      refine r_ret (r_vals [.bool false] ⟨rfl, trivial⟩ ?_)
      have hx := some_inj h
      subst hx
      have hmr : MS w33 [M] := hms.pick [some 3] _ rfl
      have hsu : ∀ x ∈ fl [M], x ∈ fl [blk a8_l13, [b9], [b23], M] := pick_sub [some 3] _ rfl
      exact ⟨rfl, hev⟩
    replace h := ite_f hb h
    refine c_skip ?_
    refine k_then ?_
    refine c_seq (c_plain ?_)
    refine x_pure 3 [(69, .int .i64 x20.2), (70, .bool (x20.2 == 0)), (71, .bool (x20.2 == 0))] _ _ _ (by kernel_rfl) ?_
    refine x_split 71 (x20.2 == 0) rfl (fun hb => ?_) (fun hb => ?_)
    · replace h := ite_t hb h
      refine x_pure 1 [(72, .int .i64 t50__s50_l28)] _ _ _ (by kernel_rfl) ?_
      refine x_fieldAddr (xv := .pointer (some ⟨b23, 0, none⟩)) (.pointer (some ⟨b23, 1, none⟩)) rfl rfl rfl (reads_field tfld29_1 _ _) ?_
      refine x_load (xv := .pointer (some ⟨b23, 1, none⟩)) (.slice a0_21 (x20.1.2).length c0_21) rfl rfl rfl (reads_box tcell27 hb23 nn 1 _ rfl) ?_
      refine x_len (vs := [.slice a0_21 (x20.1.2).length c0_21]) (.int .i64 ((x20.1.2).length : Int)) rfl rfl rfl (reads_len tsl27 _ _ _ _ _) ?_
      refine x_pure 2 [(76, .bool (decide (t50__s50_l28 ≥ ((x20.1.2).length : Int)))), (77, .bool (decide (t50__s50_l28 ≥ ((x20.1.2).length : Int))))] _ _ _ (by kernel_rfl) ?_
      refine x_split 77 (decide (t50__s50_l28 ≥ ((x20.1.2).length : Int))) rfl (fun hb => ?_) (fun hb => ?_)
      · replace h := ite_t hb h
        refine x_pure 9 [(78, undef), (79, undef), (80, undef), (81, undef), (82, undef), (83, undef), (84, undef), (85, .bool true), (86, .bool true)] _ _ _ (by kernel_rfl) ?_
        refine x_end rfl (k_then ?_)
        refine c_norm [(3, .pointer (some ⟨b9, 0, none⟩)), (5, .slice a0_18 (x17.1).length c0_18), (7, .pointer (some ⟨b23, 0, none⟩)), (8, .int .i64 x20.2), (48, .slice a0_18 (x17.1).length c0_18), (49, .int .i64 ((x17.1).length : Int)), (50, .int .i64 t50__s50_l28), (86, .bool true)] ⟨rfl, rfl, rfl, rfl, rfl, rfl, rfl, rfl, trivial⟩ (fun J => ?_)
        refine c_true rfl ?_
        refine c_seq (c_plain ?_)
        refine x_pure 1 [(2, .bool false)] _ _ _ (by kernel_rfl) ?_
        refine x_end rfl (k_then ?_)
        refine c_ret ?_
        refine k_block_ret ?_
        refine k_then_ret ?_
        have hx := some_inj h
        subst hx
        have hy := some_inj hn28
        subst hy
        replace h := h28
        refine k_then_ret ?_
        refine k_block_ret ?_
        refine k_then_ret ?_
        refine r_ret (r_vals [.bool false] ⟨rfl, trivial⟩ ?_)
        have hx := some_inj h
        subst hx
        have hmr : MS w33 [M] := hms.pick [some 3] _ rfl
        have hsu : ∀ x ∈ fl [M], x ∈ fl [blk a8_l13, [b9], [b23], M] := pick_sub [some 3] _ rfl
        exact ⟨rfl, hev⟩
      replace h := ite_f hb h
      refine x_fieldAddr (xv := .pointer (some ⟨b23, 0, none⟩)) (.pointer (some ⟨b23, 1, none⟩)) rfl rfl rfl (reads_field tfld29_1 _ _) ?_
      refine x_load (xv := .pointer (some ⟨b23, 1, none⟩)) (.slice a0_21 (x20.1.2).length c0_21) rfl rfl rfl (reads_box tcell27 hb23 nn 1 _ rfl) ?_
      refine x_pure 1 [(80, .int .i64 t50__s50_l28)] _ _ _ (by kernel_rfl) ?_
      obtain ⟨x37, hx37, h⟩ := bind_some h
      obtain ⟨ad37, cs37, hr37, hc37, hR⟩ := reads_index (Mo := []) tsl27 hf21_1 hx37
      obtain rfl := hR
      refine x_indexAddr (xv := .slice a0_21 (x20.1.2).length c0_21) (yv := .int .i64 t50__s50_l28) (.pointer (some ad37)) rfl rfl rfl rfl hr37 ?_
      refine x_load (xv := .pointer (some ad37)) (.int .i64 x37) rfl rfl rfl (reads_cell0 tcell3 hc37 (fun _ h => by cases h)) ?_
      refine x_pure 4 [(83, .int .i64 x32.1), (84, .bool (x37 != x32.1)), (85, .bool (x37 != x32.1)), (86, .bool (x37 != x32.1))] _ _ _ (by kernel_rfl) ?_
      refine x_end rfl (k_then ?_)
      refine c_norm [(3, .pointer (some ⟨b9, 0, none⟩)), (5, .slice a0_18 (x17.1).length c0_18), (7, .pointer (some ⟨b23, 0, none⟩)), (8, .int .i64 x20.2), (48, .slice a0_18 (x17.1).length c0_18), (49, .int .i64 ((x17.1).length : Int)), (50, .int .i64 t50__s50_l28), (86, .bool (x37 != x32.1))] ⟨rfl, rfl, rfl, rfl, rfl, rfl, rfl, rfl, trivial⟩ (fun J => ?_)
      refine c_cond (x37 != x32.1) rfl (fun hb => ?_) (fun hb => ?_)
      · replace h := ite_t hb h
        refine c_seq (c_plain ?_)
        refine x_pure 1 [(2, .bool false)] _ _ _ (by kernel_rfl) ?_
        refine x_end rfl (k_then ?_)
        refine c_ret ?_
        refine k_block_ret ?_
        refine k_then_ret ?_
        have hx := some_inj h
        subst hx
        have hy := some_inj hn28
        subst hy
        replace h := h28
        refine k_then_ret ?_
        refine k_block_ret ?_
        refine k_then_ret ?_
        refine r_ret (r_vals [.bool false] ⟨rfl, trivial⟩ ?_)
        have hx := some_inj h
        subst hx
        have hmr : MS w33 [M] := hms.pick [some 3] _ rfl
        have hsu : ∀ x ∈ fl [M], x ∈ fl [blk a8_l13, [b9], [b23], M] := pick_sub [some 3] _ rfl
        exact ⟨rfl, hev⟩
      replace h := ite_f hb h
      refine c_skip ?_
      refine k_block ?_
      refine k_then ?_
      refine c_plain ?_
      refine x_pure 2 [(87, .int .i64 (IntKind.i64.wrap (t50__s50_l28 + 1))), (50, .int .i64 (IntKind.i64.wrap (t50__s50_l28 + 1)))] _ _ _ (by kernel_rfl) ?_
      refine x_end rfl ?_
      have hx := some_inj h
      subst hx
      exact k_then ⟨(m28, IntKind.i64.wrap (t50__s50_l28 + 1)), ⟨rfl, rfl, rfl, rfl, rfl, rfl, rfl, trivial⟩, ⟨hn28, hev, hms, hfr, hf7_1, hb9, hf18_1, hf21_1, hb23⟩, Nat.lt_succ_self _⟩
    replace h := ite_f hb h
    refine x_pure 15 [(72, undef), (73, undef), (74, undef), (75, undef), (76, undef), (77, undef), (78, undef), (79, undef), (80, undef), (81, undef), (82, undef), (83, undef), (84, undef), (85, undef), (86, .bool false)] _ _ _ (by kernel_rfl) ?_
    refine x_end rfl (k_then ?_)
    refine c_norm [(3, .pointer (some ⟨b9, 0, none⟩)), (5, .slice a0_18 (x17.1).length c0_18), (7, .pointer (some ⟨b23, 0, none⟩)), (8, .int .i64 x20.2), (48, .slice a0_18 (x17.1).length c0_18), (49, .int .i64 ((x17.1).length : Int)), (50, .int .i64 t50__s50_l28), (86, .bool false)] ⟨rfl, rfl, rfl, rfl, rfl, rfl, rfl, rfl, trivial⟩ (fun J => ?_)
    refine c_false rfl ?_
    refine c_skip ?_
    refine k_block ?_
    refine k_then ?_
    refine c_plain ?_
    refine x_pure 2 [(87, .int .i64 (IntKind.i64.wrap (t50__s50_l28 + 1))), (50, .int .i64 (IntKind.i64.wrap (t50__s50_l28 + 1)))] _ _ _ (by kernel_rfl) ?_
    refine x_end rfl ?_
    have hx := some_inj h
    subst hx
    exact k_then ⟨(m28, IntKind.i64.wrap (t50__s50_l28 + 1)), ⟨rfl, rfl, rfl, rfl, rfl, rfl, rfl, trivial⟩, ⟨hn28, hev, hms, hfr, hf7_1, hb9, hf18_1, hf21_1, hb23⟩, Nat.lt_succ_self _⟩
  replace h := ite_f hb h
  refine c_exit ?_
  refine k_then_exit ?_
  have hx := some_inj h
  subst hx
  have hy := some_inj hn28
  subst hy
  replace h := h28
  refine k_then_exit ?_
  refine k_block_in ?_
  refine k_then ?_
  refine c_norm [(5, .slice a0_18 (x17.1).length c0_18), (7, .pointer (some ⟨b23, 0, none⟩)), (8, .int .i64 x20.2)] ⟨rfl, rfl, rfl, trivial⟩ (fun J => ?_)
  refine c_seq (c_plain ?_)
  refine x_pure 3 [(88, .int .i64 x20.2), (89, .bool (x20.2 == 0)), (90, .bool (x20.2 == 0))] _ _ _ (by kernel_rfl) ?_
  refine x_split 90 (x20.2 == 0) rfl (fun hb => ?_) (fun hb => ?_)
  · replace h := ite_t hb h
    refine x_fieldAddr (xv := .pointer (some ⟨b23, 0, none⟩)) (.pointer (some ⟨b23, 1, none⟩)) rfl rfl rfl (reads_field tfld29_1 _ _) ?_
    refine x_load (xv := .pointer (some ⟨b23, 1, none⟩)) (.slice a0_21 (x20.1.2).length c0_21) rfl rfl rfl (reads_box tcell27 hb23 nn 1 _ rfl) ?_
    refine x_len (vs := [.slice a0_21 (x20.1.2).length c0_21]) (.int .i64 ((x20.1.2).length : Int)) rfl rfl rfl (reads_len tsl27 _ _ _ _ _) ?_
    refine x_pure 1 [(94, .slice a0_18 (x17.1).length c0_18)] _ _ _ (by kernel_rfl) ?_
    refine x_len (vs := [.slice a0_18 (x17.1).length c0_18]) (.int .i64 ((x17.1).length : Int)) rfl rfl rfl (reads_len tsl27 _ _ _ _ _) ?_
    refine x_pure 3 [(96, .bool (((x20.1.2).length : Int) == ((x17.1).length : Int))), (97, .bool (((x20.1.2).length : Int) == ((x17.1).length : Int))), (98, .bool (((x20.1.2).length : Int) == ((x17.1).length : Int)))] _ _ _ (by kernel_rfl) ?_
    refine x_split 98 (((x20.1.2).length : Int) == ((x17.1).length : Int)) rfl (fun hb => ?_) (fun hb => ?_)
    · replace h := ite_t hb h
      obtain ⟨x39, hx, h⟩ := bind_some h
      have hcall := law13_sane_w _ wl28 hx
      refine x_call 13 #[] #[] [] _ rfl rfl rfl rfl hcall ?_
      rintro v w40 ⟨rfl, he40⟩
      clear hcall hx
      refine ⟨.inl rfl, ?_⟩
      have hst := Stp.ext (ls := [blk a8_l13, [b9], [b23], M]) he40
      replace hb9 := he40.box hb9 nn
      replace hf7_1 := hf7_1.step hst he40 nn2
      replace hf18_1 := hf18_1.step hst
      replace hb23 := he40.box hb23 nn
      replace hf21_1 := hf21_1.step hst
      replace hms := hms.ev he40
      replace hev := hev.ext he40
      refine x_pure 2 [(100, .bool x39), (2, .bool x39)] _ _ _ (by kernel_rfl) ?_
      refine x_end rfl (k_then ?_)
      refine c_norm [(2, .bool x39)] ⟨rfl, trivial⟩ (fun J => ?_)
      refine c_ret ?_
      refine r_ret (r_vals [.bool x39] ⟨rfl, trivial⟩ ?_)
      have hx := some_inj h
      subst hx
      have hmr : MS w40 [M] := hms.pick [some 3] _ rfl
      have hsu : ∀ x ∈ fl [M], x ∈ fl [blk a8_l13, [b9], [b23], M] := pick_sub [some 3] _ rfl
      exact ⟨rfl, hev⟩
    replace h := ite_f hb h
    refine x_pure 3 [(99, undef), (100, .bool false), (2, .bool false)] _ _ _ (by kernel_rfl) ?_
    refine x_end rfl (k_then ?_)
    refine c_norm [(2, .bool false)] ⟨rfl, trivial⟩ (fun J => ?_)
    refine c_ret ?_
    refine r_ret (r_vals [.bool false] ⟨rfl, trivial⟩ ?_)
    have hx := some_inj h
    subst hx
    have hmr : MS wl28 [M] := hms.pick [some 3] _ rfl
    have hsu : ∀ x ∈ fl [M], x ∈ fl [blk a8_l13, [b9], [b23], M] := pick_sub [some 3] _ rfl
    exact ⟨rfl, hev⟩
  replace h := ite_f hb h
  refine x_pure 11 [(91, undef), (92, undef), (93, undef), (94, undef), (95, undef), (96, undef), (97, .bool false), (98, .bool false), (99, undef), (100, .bool false), (2, .bool false)] _ _ _ (by kernel_rfl) ?_
  refine x_end rfl (k_then ?_)
  refine c_norm [(2, .bool false)] ⟨rfl, trivial⟩ (fun J => ?_)
  refine c_ret ?_
  refine r_ret (r_vals [.bool false] ⟨rfl, trivial⟩ ?_)
  have hx := some_inj h
  subst hx
  have hmr : MS wl28 [M] := hms.pick [some 3] _ rfl
  have hsu : ∀ x ∈ fl [M], x ∈ fl [blk a8_l13, [b9], [b23], M] := pick_sub [some 3] _ rfl
  exact ⟨rfl, hev⟩
end Go.Proofs.Ytgdaanhiagoonaa
