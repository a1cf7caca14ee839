/- Walks, printed by program: each function returns what the partial function of the same name returns. Conditions: those of each theorem. -/
import Derived.Test.YtacimonplnlmgaaGT
import Derived.Test.YtacimonplnlmgaaGgen
import Derived.Test.YtacimonplnlmgaaGjob
import Derived.Test.YtacimonplnlmgaaGlaw11sane
set_option linter.unusedVariables false
set_option linter.unusedSimpArgs false
set_option maxRecDepth 4000
namespace Go.Proofs.Ytacimonplnlmgaa
open Go Go.V Go.Proofs
def law11_JobTrains_L22 (x6 : ((List (Int × Int × Int × Int)) × Int) × Int) (x12 : (List Int) × Int) (n_s6_l16 : Int) (s : (List (Int × Int × Int × Int)) × (List Int) × Int) : Option (Step ((List (Int × Int × Int × Int)) × (List Int) × Int) ((List (Int × Int × Int × Int)) × (List Int))) :=
match s with
| (d24_l22, d26_l22, t41__s41_l22) =>
(if (decide (t41__s41_l22 < ((x6.1.1).length : Int))) = true then
((idx x6.1.1 t41__s41_l22).bind fun x28 =>
(if (x28.1 == n_s6_l16) = true then
(if d24_l22.length + ([(x28.1, x28.2.1, x28.2.2.1, x28.2.2.2)] : List (Int × Int × Int × Int)).length ≤ 4294967296 then
((idx x12.1 t41__s41_l22).bind fun x37 =>
(if d26_l22.length + ([x37]).length ≤ 4294967296 then
some (.next ((d24_l22 ++ ([(x28.1, x28.2.1, x28.2.2.1, x28.2.2.2)] : List (Int × Int × Int × Int))), (d26_l22 ++ [x37]), IntKind.i64.wrap (t41__s41_l22 + 1)))
else none))
else none)
else
some (.next (d24_l22, d26_l22, IntKind.i64.wrap (t41__s41_l22 + 1)))))
else
some (.done (d24_l22, d26_l22)))

def law11_JobTrains_L16 (x6 : ((List (Int × Int × Int × Int)) × Int) × Int) (x12 : (List Int) × Int) (s : Int) : Option (Step Int (Unit ⊕ Unit)) :=
match s with
| n_s6_l16 =>
(if (decide (n_s6_l16 < 3)) = true then
((loop (law11_JobTrains_L22 x6 x12 n_s6_l16) (([] : List (Int × Int × Int × Int)), ([] : List Int), 0)).bind fun d => match d with
| (d24_x22, d26_x22) => ((job_Levels d24_x22 x6.1.2).bind fun x42 =>
(if (x42.2 != 0) = true then
some (.done (.inl ()))
else
((gen_Ints x42.1 d26_x22).bind fun x45 =>
(if (!x45) = true then
some (.done (.inl ()))
else
some (.next (IntKind.i64.wrap (n_s6_l16 + 1))))))))
else
some (.done (.inr ())))

def law11_JobTrains (p0 : List Int) : Option Bool :=
((gen_New p0).bind fun x2 =>
((gen_Maker_Job x2.1 x2.2 16).bind fun x6 =>
((job_Levels x6.1.1 x6.1.2).bind fun x12 =>
(if (x12.2 != 0) = true then
some false
else
(if (((x12.1).length : Int) != ((x6.1.1).length : Int)) = true then
some false
else
((loop (law11_JobTrains_L16 x6 x12) 0).bind fun d => match d with
| (.inl _) => some false
| (.inr _) => ((law11_sane).bind fun x47 =>
some x47)))))))

theorem law11_JobTrains_w (a_p0 : Option Addr) (c_p0 : Nat) (p0 : List Int) (r : Bool) (w : World) (M : List Nat) (hms : MS w [M]) (hs_p0 : SlR (eInt .i64) w (fl [M]) a_p0 c_p0 p0) (h : law11_JobTrains p0 = some r) : CallVC Try.prog 5 [.slice a_p0 (p0).length c_p0] w fun v w' => v = .bool r ∧ Ev [] w w' := by
  refine calls_vc hmx Try.func5 (by kernel_rfl) rfl (rs := [.tmp 2]) rfl (by kernel_rfl) (args := [.slice a_p0 (p0).length c_p0]) rfl ?_
  have hev : Ev [] w w := Ev.refl _ _
  have hfr : FR w.heap.size [] := FR.nil _
  refine c_seq (c_plain ?_)
  refine x_pure 1 [(2, .bool false)] _ _ _ (by kernel_rfl) ?_
  refine x_end rfl (k_then ?_)
  refine c_seq (c_plain ?_)
  refine x_pure 1 [(13, .slice a_p0 (p0).length c_p0)] _ _ _ (by kernel_rfl) ?_
  obtain ⟨x2, hx, h⟩ := bind_some h
  have hpk : MS w ([] ++ [M]) := hms.pick [some 0] _ rfl
  have hsb0 : ∀ x ∈ fl ([] ++ [M]), x ∈ fl [M] := pick_sub [some 0] _ rfl
  have hsb : ∀ x ∈ fl ([] ++ [(fl [M])]), x ∈ fl [M] := fun x hx => hsb0 x (fl_unfold x hx)
  have hcall := gen_New_w a_p0 c_p0 p0 _ w (fl [M]) (MS.fold (P := []) hpk) (hs_p0.sub hsb) hx
  refine x_call 13 #[] #[] [.slice a_p0 (p0).length c_p0] _ rfl rfl rfl rfl hcall ?_
  rintro v w3 ⟨b0_3, a1_3, c1_3, rfl, he3, hmn3, hfn3, hf3_1, hf3_2⟩
  clear hcall hx
  refine ⟨.inl rfl, ?_⟩
  have hpk2 : MS w ([] ++ [M]) := hms.pick [some 0] _ rfl
  have hsb2 : ∀ x ∈ fl ([] ++ [M]), x ∈ fl [M] := pick_sub [some 0] _ rfl
  have hst0 := Stp.call (LS := [M]) (res := [[b0_3]]) (par := []) (R := [M]) he3 (fun b hb => hsb2 b (fl_left' (P := []) b hb)) hfn3 (NP.init _ _) (fun x hx => hsb2 x (fl_right' (P := []) x hx))
  have hsn : ∀ x ∈ fl [[b0_3], M], x ∈ fl ([[b0_3]] ++ ([] ++ [M])) := pick_sub [some 0, some 1] _ rfl
  have hst := hst0.res hsn
  replace hs_p0 := hs_p0.step hst
  replace hms : MS w3 [[b0_3], M] := (MS.call (P := []) (R := [M]) (res := [[b0_3]]) (par := []) hpk2 he3 hmn3 hfn3 (NP.init _ _)).pick [some 0, some 1] _ rfl
  have hfr2 : FR w.heap.size [[b0_3]] := (FR.cons (fun b hb => Nat.le_trans hev.size (hfn3.at 0 rfl b hb)) (FR.nil _))
  replace hev := hev.ext he3
  replace hfr := hfr2
  clear hfr2
  have hsp : ∀ x ∈ fl [[b0_3], M], x ∈ fl ([[b0_3]] ++ ([] ++ [(fl [M])])) := fun x hx => fl_tot (res := [[b0_3]]) (par := []) (R := [M]) x (hsn x hx)
  replace hf3_2 := hf3_2.sub hsp
  clear hpk hsb hsb0 hpk2 hsb2 hst0 hsn hst
  obtain ⟨x6, hx, h⟩ := bind_some h
  have hpk : MS w3 ([[b0_3]] ++ [M]) := hms.pick [some 0, some 1] _ rfl
  have hsb0 : ∀ x ∈ fl ([[b0_3]] ++ [M]), x ∈ fl [[b0_3], M] := pick_sub [some 0, some 1] _ rfl
  have hsb : ∀ x ∈ fl ([[b0_3]] ++ [(fl [M])]), x ∈ fl [[b0_3], M] := fun x hx => hsb0 x (fl_unfold x hx)
  have hcall := gen_Maker_Job_w b0_3 a1_3 c1_3 x2.1 x2.2 16 _ w3 (fl [M]) (hpk.fold (P := [[b0_3]])) (hf3_2.sub hsb) hf3_1 hx
  refine x_call 14 #[] #[] [.pointer (some ⟨b0_3, 0, none⟩), .int .i64 16] _ rfl rfl rfl rfl hcall ?_
  rintro v w7 ⟨a0_7, c0_7, rfl, he7, hp7_0, hmn7, hfn7, hf7_1⟩
  clear hcall hx
  refine ⟨.inl rfl, ?_⟩
  have hpk2 : MS w3 ([[b0_3]] ++ [M]) := hms.pick [some 0, some 1] _ rfl
  have hsb2 : ∀ x ∈ fl ([[b0_3]] ++ [M]), x ∈ fl [[b0_3], M] := pick_sub [some 0, some 1] _ rfl
  have hst0 := Stp.call (LS := [[b0_3], M]) (res := [blk a0_7]) (par := [[b0_3]]) (R := [M]) he7 (fun b hb => hsb2 b (fl_left' (P := [[b0_3]]) b hb)) hfn7 (NP.init _ _) (fun x hx => hsb2 x (fl_right' (P := [[b0_3]]) x hx))
  have hsn : ∀ x ∈ fl [blk a0_7, [b0_3], M], x ∈ fl ([blk a0_7] ++ ([[b0_3]] ++ [M])) := pick_sub [some 0, some 1, some 2] _ rfl
  have hst := hst0.res hsn
  replace hs_p0 := hs_p0.step hst
  replace hf3_2 := hf3_2.step hst
  replace hms : MS w7 [blk a0_7, [b0_3], M] := (MS.call (P := [[b0_3]]) (R := [M]) (res := [blk a0_7]) (par := [[b0_3]]) hpk2 he7 hmn7 hfn7 (NP.init _ _)).pick [some 0, some 1, some 2] _ rfl
  have hPf : ∀ b ∈ fl [[b0_3]], w.heap.size ≤ b := FR.mem (ls := [[b0_3]]) (hfr.pick [some 0] _ rfl)
  have hfr2 : FR w.heap.size [blk a0_7, [b0_3]] := (FR.cons (fun b hb => Nat.le_trans hev.size (hfn7.at 0 rfl b hb)) (FR.cons (hfr.at 0 rfl) (FR.nil _)))
  replace hev := hev.then he7 (fun b hb => .inr (hPf b hb))
  replace hfr := hfr2
  clear hfr2
  replace hf3_1 := hp7_0
  replace hf7_1 := OwnS.plain (M' := fl [blk a0_7, [b0_3], M]) (plain_prod (plain_int _) (plain_prod (plain_int _) (plain_prod (plain_int _) (plain_int _)))) hf7_1
  clear hpk hsb hsb0 hpk2 hsb2 hst0 hsn hst
  have hpk : MS w7 [[b0_3], M] := hms.pick [some 1, some 2] _ rfl
  have hsu : ∀ x ∈ fl [[b0_3], M], x ∈ fl [blk a0_7, [b0_3], M] := pick_sub [some 1, some 2] _ rfl
  replace hs_p0 := hs_p0.sub hsu
  replace hf3_2 := hf3_2.sub hsu
  replace hf7_1 := hf7_1.ro hsu (pick_out hms 0 rfl [some 1, some 2] [[b0_3], M] rfl rfl)
  replace hms := hpk
  replace hfr : FR w.heap.size [[b0_3]] := hfr.pick [some 1] _ rfl
  clear hpk hsu
  refine x_alloc (z := .agg #[.slice none 0 0, .int .i64 0]) rfl rfl (by kernel_rfl) (fun b9 w9 hq9 hb9 he9 hz9 => ?_)
  replace hb9 : w9.heap[b9]? = some (.cells #[.slice none 0 0, .int .i64 0] 24 (0, 0)) := hb9
  refine ⟨.inl rfl, ?_⟩
  have hst := Stp.box (ls := [[b0_3], M]) he9 hq9
  replace hs_p0 := hs_p0.step hst
  replace hf3_1 := he9.box hf3_1 nn
  replace hf3_2 := hf3_2.step hst
  replace hf7_1 := hf7_1.step hst
  replace hms := hms.box he9 hq9 hb9
  replace hfr := hfr.box hev.size hq9
  replace hev := hev.ext he9
  obtain ⟨w11, hr11, hb11, he11⟩ := store_boxagg 0 [.slice a0_7 (x6.1.1).length c0_7, .int .i64 x6.1.2] #[.slice a0_7 (x6.1.1).length c0_7, .int .i64 x6.1.2] tagg24 hb9 rfl rfl rfl
  refine x_store w11 (xv := .pointer (some ⟨b9, 0, none⟩)) (yv := .agg #[.slice a0_7 (x6.1.1).length c0_7, .int .i64 x6.1.2]) rfl rfl rfl rfl hr11 ?_
  refine ⟨.inl rfl, ?_⟩
  have hst := Stp.ev' (ls := [[b9], [b0_3], M]) he11 (mem_flat 0 rfl)
  replace hs_p0 := hs_p0.step hst
  replace hf3_1 := he11.box hf3_1 (hms.apart 1 0 rfl rfl rfl _ (List.mem_singleton.2 rfl))
  replace hf3_2 := hf3_2.step hst
  replace hf7_1 := hf7_1.step hst
  replace hms := hms.ev he11
  replace hev := hev.then he11 (fun b hb => .inr (hfr.at 0 rfl b hb))
  replace hb9 := hb11
  refine x_end rfl (k_then ?_)
  refine c_seq (c_plain ?_)
  refine x_load (xv := .pointer (some ⟨b9, 0, none⟩)) (.agg #[.slice a0_7 (x6.1.1).length c0_7, .int .i64 x6.1.2]) rfl rfl rfl (reads_boxagg 0 [.slice a0_7 (x6.1.1).length c0_7, .int .i64 x6.1.2] tagg24 hb9 nn rfl) ?_
  obtain ⟨x12, hx, h⟩ := bind_some h
  have hpk : MS w11 ([] ++ [[b9], [b0_3], M]) := hms.pick [some 0, some 1, some 2] _ rfl
  have hsb0 : ∀ x ∈ fl ([] ++ [[b9], [b0_3], M]), x ∈ fl [[b9], [b0_3], M] := pick_sub [some 0, some 1, some 2] _ rfl
  have hsb : ∀ x ∈ fl ([] ++ [(fl [[b9], [b0_3], M])]), x ∈ fl [[b9], [b0_3], M] := fun x hx => hsb0 x (fl_unfold x hx)
  have hcall := job_Levels_w a0_7 c0_7 x6.1.1 x6.1.2 _ w11 (fl [[b9], [b0_3], M]) (MS.fold (P := []) hpk) (hf7_1.sub hsb) hx
  refine x_call 10 #[] #[] [.agg #[.slice a0_7 (x6.1.1).length c0_7, .int .i64 x6.1.2]] _ rfl rfl rfl rfl hcall ?_
  rintro v w13 ⟨a0_13, c0_13, rfl, he13, hmn13, hfn13, hf13_1⟩
  clear hcall hx
  refine ⟨.inl rfl, ?_⟩
  have hpk2 : MS w11 ([] ++ [[b9], [b0_3], M]) := hms.pick [some 0, some 1, some 2] _ rfl
  have hsb2 : ∀ x ∈ fl ([] ++ [[b9], [b0_3], M]), x ∈ fl [[b9], [b0_3], M] := pick_sub [some 0, some 1, some 2] _ rfl
  have hst0 := Stp.call (LS := [[b9], [b0_3], M]) (res := [blk a0_13]) (par := []) (R := [[b9], [b0_3], M]) he13 (fun b hb => hsb2 b (fl_left' (P := []) b hb)) hfn13 (NP.init _ _) (fun x hx => hsb2 x (fl_right' (P := []) x hx))
  have hsn : ∀ x ∈ fl [blk a0_13, [b9], [b0_3], M], x ∈ fl ([blk a0_13] ++ ([] ++ [[b9], [b0_3], M])) := pick_sub [some 0, some 1, some 2, some 3] _ rfl
  have hst := hst0.res hsn
  replace hf3_1 := he13.box hf3_1 ((MS.outs (P := []) hpk2 1 rfl) _ (List.mem_singleton.2 rfl))
  replace hf3_2 := hf3_2.step hst
  replace hf7_1 := hf7_1.step hst
  replace hb9 := he13.box hb9 ((MS.outs (P := []) hpk2 0 rfl) _ (List.mem_singleton.2 rfl))
  replace hms : MS w13 [blk a0_13, [b9], [b0_3], M] := (MS.call (P := []) (R := [[b9], [b0_3], M]) (res := [blk a0_13]) (par := []) hpk2 he13 hmn13 hfn13 (NP.init _ _)).pick [some 0, some 1, some 2, some 3] _ rfl
  have hfr2 : FR w.heap.size [blk a0_13, [b9], [b0_3]] := (FR.cons (fun b hb => Nat.le_trans hev.size (hfn13.at 0 rfl b hb)) (FR.cons (hfr.at 0 rfl) (FR.cons (hfr.at 1 rfl) (FR.nil _))))
  replace hev := hev.ext he13
  replace hfr := hfr2
  clear hfr2
  replace hf13_1 := OwnS.plain (M' := fl [blk a0_13, [b9], [b0_3], M]) (plain_int _) hf13_1
  clear hpk hsb hsb0 hpk2 hsb2 hst0 hsn hst
  have hpk : MS w13 [[b9], [b0_3], M] := hms.pick [some 1, some 2, some 3] _ rfl
  have hsu : ∀ x ∈ fl [[b9], [b0_3], M], x ∈ fl [blk a0_13, [b9], [b0_3], M] := pick_sub [some 1, some 2, some 3] _ rfl
  replace hf3_2 := hf3_2.sub hsu
  replace hf7_1 := hf7_1.sub hsu
  replace hf13_1 := hf13_1.ro hsu (pick_out hms 0 rfl [some 1, some 2, some 3] [[b9], [b0_3], M] rfl rfl)
  replace hms := hpk
  replace hfr : FR w.heap.size [[b9], [b0_3]] := hfr.pick [some 1, some 2] _ rfl
  clear hpk hsu
  refine x_pure 5 [(16, .tuple #[.slice a0_13 (x12.1).length c0_13, .int .i64 x12.2]), (19, .slice a0_13 (x12.1).length c0_13), (20, .int .i64 x12.2), (4, .slice a0_13 (x12.1).length c0_13), (5, .int .i64 x12.2)] _ _ _ (by kernel_rfl) ?_
  refine x_end rfl (k_then ?_)
  refine c_seq ?_
  refine c_seq (c_plain ?_)
  refine x_pure 3 [(21, .int .i64 x12.2), (22, .bool (x12.2 != 0)), (23, .bool (x12.2 != 0))] _ _ _ (by kernel_rfl) ?_
  refine x_split 23 (x12.2 != 0) rfl (fun hb => ?_) (fun hb => ?_)
  · replace h := ite_t hb h
    refine x_pure 7 [(24, undef), (25, undef), (26, undef), (27, undef), (28, undef), (29, undef), (30, .bool true)] _ _ _ (by kernel_rfl) ?_
    refine x_end rfl (k_then ?_)
    refine c_norm [(3, .pointer (some ⟨b9, 0, none⟩)), (4, .slice a0_13 (x12.1).length c0_13), (30, .bool true)] ⟨rfl, rfl, rfl, trivial⟩ (fun J => ?_)
    refine c_true rfl ?_
    refine c_seq (c_plain ?_)
    refine x_pure 1 [(2, .bool false)] _ _ _ (by kernel_rfl) ?_
    refine x_end rfl (k_then ?_)
    refine c_ret ?_
    refine k_then_ret ?_
    refine r_ret (r_vals [.bool false] ⟨rfl, trivial⟩ ?_)
    have hx := some_inj h
    subst hx
    have hmr : MS w13 [M] := hms.pick [some 2] _ rfl
    have hsu : ∀ x ∈ fl [M], x ∈ fl [[b9], [b0_3], M] := pick_sub [some 2] _ rfl
    exact ⟨rfl, hev⟩
  replace h := ite_f hb h
  refine x_pure 1 [(24, .slice a0_13 (x12.1).length c0_13)] _ _ _ (by kernel_rfl) ?_
  refine x_len (vs := [.slice a0_13 (x12.1).length c0_13]) (.int .i64 ((x12.1).length : Int)) rfl rfl rfl (reads_len tsl27 _ _ _ _ _) ?_
  refine x_fieldAddr (xv := .pointer (some ⟨b9, 0, none⟩)) (.pointer (some ⟨b9, 0, none⟩)) rfl rfl rfl (reads_field tfld24_0 _ _) ?_
  refine x_load (xv := .pointer (some ⟨b9, 0, none⟩)) (.slice a0_7 (x6.1.1).length c0_7) rfl rfl rfl (reads_box tcell22 hb9 nn 0 _ rfl) ?_
  refine x_len (vs := [.slice a0_7 (x6.1.1).length c0_7]) (.int .i64 ((x6.1.1).length : Int)) rfl rfl rfl (reads_len tsl22 _ _ _ _ _) ?_
  refine x_pure 2 [(29, .bool (((x12.1).length : Int) != ((x6.1.1).length : Int))), (30, .bool (((x12.1).length : Int) != ((x6.1.1).length : Int)))] _ _ _ (by kernel_rfl) ?_
  refine x_end rfl (k_then ?_)
  refine c_norm [(3, .pointer (some ⟨b9, 0, none⟩)), (4, .slice a0_13 (x12.1).length c0_13), (30, .bool (((x12.1).length : Int) != ((x6.1.1).length : Int)))] ⟨rfl, rfl, rfl, trivial⟩ (fun J => ?_)
  refine c_cond (((x12.1).length : Int) != ((x6.1.1).length : Int)) rfl (fun hb => ?_) (fun hb => ?_)
  · replace h := ite_t hb h
    refine c_seq (c_plain ?_)
    refine x_pure 1 [(2, .bool false)] _ _ _ (by kernel_rfl) ?_
    refine x_end rfl (k_then ?_)
    refine c_ret ?_
    refine k_then_ret ?_
    refine r_ret (r_vals [.bool false] ⟨rfl, trivial⟩ ?_)
    have hx := some_inj h
    subst hx
    have hmr : MS w13 [M] := hms.pick [some 2] _ rfl
    have hsu : ∀ x ∈ fl [M], x ∈ fl [[b9], [b0_3], M] := pick_sub [some 2] _ rfl
    exact ⟨rfl, hev⟩
  replace h := ite_f hb h
  refine c_skip ?_
  refine k_then ?_
  refine c_seq ?_
  refine c_seq (c_plain ?_)
  refine x_pure 1 [(6, .int .i64 0)] _ _ _ (by kernel_rfl) ?_
  refine x_end rfl (k_then ?_)
  refine c_block ?_
  have hpk : MS w13 [[b9], M] := hms.pick [some 0, some 2] _ rfl
  have hsu : ∀ x ∈ fl [[b9], M], x ∈ fl [[b9], [b0_3], M] := pick_sub [some 0, some 2] _ rfl
  replace hf7_1 := hf7_1.sub hsu
  replace hf13_1 := hf13_1.sub hsu
  replace hms := hpk
  replace hfr : FR w.heap.size [[b9]] := hfr.pick [some 0] _ rfl
  clear hpk hsu
  obtain ⟨d16, hd16, h16⟩ := bind_some h
  obtain ⟨m16, hd16⟩ := loop_some hd16
  refine c_loop (loop_rule hmx (σ := Nat × Int) (fun s => match s with | (_, n_s6_l16) => [(3, .pointer (some ⟨b9, 0, none⟩)), (4, .slice a0_13 (x12.1).length c0_13), (6, .int .i64 n_s6_l16)]) (fun s w' => match s with | (m, n_s6_l16) => loopN (law11_JobTrains_L16 x6 x12) m n_s6_l16 = some d16 ∧ Ev [] w w' ∧ MS w' [[b9], M] ∧ FR w.heap.size [[b9]] ∧ SlR (eProd (eInt .i64) (eProd (eInt .i64) (eProd (eInt .i64) (eInt .i64)))) w' (fl [[b9], M]) a0_7 c0_7 x6.1.1 ∧ w'.heap[b9]? = some (.cells #[.slice a0_7 (x6.1.1).length c0_7, .int .i64 x6.1.2] 24 (0, 0)) ∧ SlR (eInt .i64) w' (fl [[b9], M]) a0_13 c0_13 x12.1) (fun s => s.1) (m16, 0) ⟨rfl, rfl, rfl, trivial⟩ ⟨hd16, hev, hms, hfr, hf7_1, hb9, hf13_1⟩ ?_)
  rintro ⟨m16, n_s6_l16⟩ J wl16 ⟨hn16, hev, hms, hfr, hf7_1, hb9, hf13_1⟩
  rcases m16 with _ | m16
  · exact (loopN_zero hn16).elim
  obtain ⟨t16, h, hn16⟩ := bind_some hn16
  refine c_seq ?_
  refine c_seq (c_plain ?_)
  refine x_pure 2 [(31, .int .i64 n_s6_l16), (32, .bool (decide (n_s6_l16 < 3)))] _ _ _ (by kernel_rfl) ?_
  refine x_end rfl (k_then ?_)
  refine c_norm [(3, .pointer (some ⟨b9, 0, none⟩)), (4, .slice a0_13 (x12.1).length c0_13), (6, .int .i64 n_s6_l16), (32, .bool (decide (n_s6_l16 < 3)))] ⟨rfl, rfl, rfl, rfl, trivial⟩ (fun J => ?_)
  refine c_cond (decide (n_s6_l16 < 3)) rfl (fun hb => ?_) (fun hb => ?_)
  · replace h := ite_t hb h
    refine c_skip ?_
    refine k_then ?_
    refine c_seq ?_
    refine c_block ?_
    refine c_seq (c_plain ?_)
    refine x_fieldAddr (xv := .pointer (some ⟨b9, 0, none⟩)) (.pointer (some ⟨b9, 1, none⟩)) rfl rfl rfl (reads_field tfld24_1 _ _) ?_
    refine x_load (xv := .pointer (some ⟨b9, 1, none⟩)) (.int .i64 x6.1.2) rfl rfl rfl (reads_box tcell3 hb9 nn 1 _ rfl) ?_
    refine x_build (vs := [(1, .int .i64 x6.1.2)]) (.agg #[.slice none 0 0, .int .i64 x6.1.2]) rfl rfl rfl (fun _ _ => by kernel_rfl) ?_
    refine x_alloc (z := .agg #[.slice none 0 0, .int .i64 0]) rfl rfl (by kernel_rfl) (fun b18 w18 hq18 hb18 he18 hz18 => ?_)
    replace hb18 : w18.heap[b18]? = some (.cells #[.slice none 0 0, .int .i64 0] 24 (0, 0)) := hb18
    refine ⟨.inl rfl, ?_⟩
    have hst := Stp.box (ls := [[b9], M]) he18 hq18
    replace hb9 := he18.box hb9 nn
    replace hf7_1 := hf7_1.step hst
    replace hf13_1 := hf13_1.step hst
    replace hms := hms.box he18 hq18 hb18
    replace hfr := hfr.box hev.size hq18
    replace hev := hev.ext he18
    obtain ⟨w20, hr20, hb20, he20⟩ := store_boxagg 0 [.slice none 0 0, .int .i64 x6.1.2] #[.slice none 0 0, .int .i64 x6.1.2] tagg24 hb18 rfl rfl rfl
    refine x_store w20 (xv := .pointer (some ⟨b18, 0, none⟩)) (yv := .agg #[.slice none 0 0, .int .i64 x6.1.2]) rfl rfl rfl rfl hr20 ?_
    refine ⟨.inl rfl, ?_⟩
    have hst := Stp.ev' (ls := [[b18], [b9], M]) he20 (mem_flat 0 rfl)
    replace hb9 := he20.box hb9 (hms.apart 1 0 rfl rfl rfl _ (List.mem_singleton.2 rfl))
    replace hf7_1 := hf7_1.step hst
    replace hf13_1 := hf13_1.step hst
    replace hms := hms.ev he20
    replace hev := hev.then he20 (fun b hb => .inr (hfr.at 0 rfl b hb))
    replace hb18 := hb20
    refine x_end rfl (k_then ?_)
    refine c_seq (c_plain ?_)
    refine x_pure 1 [(8, .slice none 0 0)] _ _ _ (by kernel_rfl) ?_
    refine x_end rfl (k_then ?_)
    refine c_seq ?_
    refine c_seq (c_plain ?_)
    refine x_fieldAddr (xv := .pointer (some ⟨b9, 0, none⟩)) (.pointer (some ⟨b9, 0, none⟩)) rfl rfl rfl (reads_field tfld24_0 _ _) ?_
    refine x_load (xv := .pointer (some ⟨b9, 0, none⟩)) (.slice a0_7 (x6.1.1).length c0_7) rfl rfl rfl (reads_box tcell22 hb9 nn 0 _ rfl) ?_
    refine x_len (vs := [.slice a0_7 (x6.1.1).length c0_7]) (.int .i64 ((x6.1.1).length : Int)) rfl rfl rfl (reads_len tsl22 _ _ _ _ _) ?_
    refine x_pure 1 [(41, .int .i64 0)] _ _ _ (by kernel_rfl) ?_
    refine x_end rfl (k_then ?_)
    refine c_block ?_
    have hst := Stp.push (ls := [[b18], [b9], M]) (l := blk none) (Ev.refl [] w20) (fun _ h => by cases h) (fun _ h => by cases h)
    replace hb9 := (Ev.refl [] _).box hb9 nn
    replace hf7_1 := hf7_1.step hst
    replace hf13_1 := hf13_1.step hst
    replace hb18 := (Ev.refl [] _).box hb18 nn
    replace hms := hms.push (l := blk none) (Ev.refl [] _) (fun _ h => by cases h)
    replace hfr := hfr.push (l := blk none) (fun _ h => by cases h)
    have ho23 := OwnS.nil (eProd (eInt .i64) (eProd (eInt .i64) (eProd (eInt .i64) (eInt .i64)))) 26 w20 (fl [blk none, [b18], [b9], M])
    have hst := Stp.push (ls := [blk none, [b18], [b9], M]) (l := blk none) (Ev.refl [] w20) (fun _ h => by cases h) (fun _ h => by cases h)
    replace hb9 := (Ev.refl [] _).box hb9 nn
    replace hf7_1 := hf7_1.step hst
    replace hf13_1 := hf13_1.step hst
    replace hb18 := (Ev.refl [] _).box hb18 nn
    replace ho23 := ho23.step hst (Ev.refl [] _) nn2
    replace hms := hms.push (l := blk none) (Ev.refl [] _) (fun _ h => by cases h)
    replace hfr := hfr.push (l := blk none) (fun _ h => by cases h)
    have ho25 := OwnS.nil (eInt .i64) 3 w20 (fl [blk none, blk none, [b18], [b9], M])
    have hpk : MS w20 [[b9], blk none, [b18], blk none, M] := hms.pick [some 3, some 1, some 2, some 0, some 4] _ rfl
    have hsu : ∀ x ∈ fl [[b9], blk none, [b18], blk none, M], x ∈ fl [blk none, blk none, [b18], [b9], M] := pick_sub [some 3, some 1, some 2, some 0, some 4] _ rfl
    replace hf7_1 := hf7_1.sub hsu
    replace hf13_1 := hf13_1.sub hsu
    replace ho23 := ho23.sub hsu
    replace ho25 := ho25.sub hsu
    replace hms := hpk
    replace hfr : FR w.heap.size [[b9], blk none, [b18], blk none] := hfr.pick [some 3, some 1, some 2, some 0] _ rfl
    clear hpk hsu
    obtain ⟨d22, hd22, h22⟩ := bind_some h
    obtain ⟨m22, hd22⟩ := loop_some hd22
    refine c_loop (loop_rule hmx (σ := Nat × (List (Int × Int × Int × Int)) × (List Int) × Int × Option Addr × Nat × Option Addr × Nat) (fun s => match s with | (_, d24_l22, d26_l22, t41__s41_l22, a24_l22, c24_l22, a26_l22, c26_l22) => [(3, .pointer (some ⟨b9, 0, none⟩)), (4, .slice a0_13 (x12.1).length c0_13), (6, .int .i64 n_s6_l16), (7, .pointer (some ⟨b18, 0, none⟩)), (8, .slice a26_l22 (d26_l22).length c26_l22), (39, .slice a0_7 (x6.1.1).length c0_7), (40, .int .i64 ((x6.1.1).length : Int)), (41, .int .i64 t41__s41_l22)]) (fun s w' => match s with | (m, d24_l22, d26_l22, t41__s41_l22, a24_l22, c24_l22, a26_l22, c26_l22) => loopN (law11_JobTrains_L22 x6 x12 n_s6_l16) m (d24_l22, d26_l22, t41__s41_l22) = some d22 ∧ Ev [] w w' ∧ MS w' [[b9], blk a24_l22, [b18], blk a26_l22, M] ∧ FR w.heap.size [[b9], blk a24_l22, [b18], blk a26_l22] ∧ SlR (eProd (eInt .i64) (eProd (eInt .i64) (eProd (eInt .i64) (eInt .i64)))) w' (fl [[b9], blk a24_l22, [b18], blk a26_l22, M]) a0_7 c0_7 x6.1.1 ∧ w'.heap[b9]? = some (.cells #[.slice a0_7 (x6.1.1).length c0_7, .int .i64 x6.1.2] 24 (0, 0)) ∧ SlR (eInt .i64) w' (fl [[b9], blk a24_l22, [b18], blk a26_l22, M]) a0_13 c0_13 x12.1 ∧ OwnS (eProd (eInt .i64) (eProd (eInt .i64) (eProd (eInt .i64) (eInt .i64)))) 26 w' (fl [[b9], blk a24_l22, [b18], blk a26_l22, M]) a24_l22 c24_l22 d24_l22 ∧ w'.heap[b18]? = some (.cells #[.slice a24_l22 (d24_l22).length c24_l22, .int .i64 x6.1.2] 24 (0, 0)) ∧ OwnS (eInt .i64) 3 w' (fl [[b9], blk a24_l22, [b18], blk a26_l22, M]) a26_l22 c26_l22 d26_l22) (fun s => s.1) (m22, ([] : List (Int × Int × Int × Int)), ([] : List Int), 0, none, 0, none, 0) ⟨rfl, rfl, rfl, rfl, rfl, rfl, rfl, rfl, trivial⟩ ⟨hd22, hev, hms, hfr, hf7_1, hb9, hf13_1, ho23, hb18, ho25⟩ ?_)
    rintro ⟨m22, d24_l22, d26_l22, t41__s41_l22, a24_l22, c24_l22, a26_l22, c26_l22⟩ J wl22 ⟨hn22, hev, hms, hfr, hf7_1, hb9, hf13_1, hj24_l22, hb18, hj26_l22⟩
    rcases m22 with _ | m22
    · exact (loopN_zero hn22).elim
    obtain ⟨t22, h, hn22⟩ := bind_some hn22
    refine c_seq (c_plain ?_)
    refine x_pure 1 [(42, .bool (decide (t41__s41_l22 < ((x6.1.1).length : Int))))] _ _ _ (by kernel_rfl) ?_
    refine x_end rfl (k_then ?_)
    refine c_norm [(3, .pointer (some ⟨b9, 0, none⟩)), (4, .slice a0_13 (x12.1).length c0_13), (6, .int .i64 n_s6_l16), (7, .pointer (some ⟨b18, 0, none⟩)), (8, .slice a26_l22 (d26_l22).length c26_l22), (39, .slice a0_7 (x6.1.1).length c0_7), (40, .int .i64 ((x6.1.1).length : Int)), (41, .int .i64 t41__s41_l22), (42, .bool (decide (t41__s41_l22 < ((x6.1.1).length : Int))))] ⟨rfl, rfl, rfl, rfl, rfl, rfl, rfl, rfl, rfl, trivial⟩ (fun J => ?_)
    refine c_seq ?_
    refine c_cond (decide (t41__s41_l22 < ((x6.1.1).length : Int))) rfl (fun hb => ?_) (fun hb => ?_)
    · replace h := ite_t hb h
      refine c_skip ?_
      refine k_then ?_
      refine c_seq ?_
      refine c_block ?_
      refine c_seq (c_plain ?_)
      refine x_pure 1 [(43, .int .i64 t41__s41_l22)] _ _ _ (by kernel_rfl) ?_
      obtain ⟨x28, hx28, h⟩ := bind_some h
      obtain ⟨ad28, cs28, hr28, hc28, hR⟩ := reads_index (Mo := []) tsl22 hf7_1 hx28
      obtain ⟨_, _, rfl, rfl, ⟨_, _, rfl, rfl, ⟨_, _, rfl, rfl, rfl⟩⟩⟩ := hR
      refine x_indexAddr (xv := .slice a0_7 (x6.1.1).length c0_7) (yv := .int .i64 t41__s41_l22) (.pointer (some ad28)) rfl rfl rfl rfl hr28 ?_
      refine x_load (xv := .pointer (some ad28)) (.agg #[.int .i64 x28.1, .int .i64 x28.2.1, .int .i64 x28.2.2.1, .int .i64 x28.2.2.2]) rfl rfl rfl (reads_agg tagg26 hc28 (fun _ h => by cases h)) ?_
      refine x_alloc (z := .agg #[.int .i64 0, .int .i64 0, .int .i64 0, .int .i64 0]) rfl rfl (by kernel_rfl) (fun b30 w30 hq30 hb30 he30 hz30 => ?_)
      replace hb30 : w30.heap[b30]? = some (.cells #[.int .i64 0, .int .i64 0, .int .i64 0, .int .i64 0] 26 (0, 0)) := hb30
      refine ⟨.inl rfl, ?_⟩
      have hst := Stp.box (ls := [[b9], blk a24_l22, [b18], blk a26_l22, M]) he30 hq30
      replace hb9 := he30.box hb9 nn
      replace hf7_1 := hf7_1.step hst
      replace hf13_1 := hf13_1.step hst
      replace hb18 := he30.box hb18 nn
      replace hj24_l22 := hj24_l22.step hst he30 nn2
      replace hj26_l22 := hj26_l22.step hst he30 nn2
      replace hc28 := hc28.step hst
      replace hms := hms.box he30 hq30 hb30
      replace hfr := hfr.box hev.size hq30
      replace hev := hev.ext he30
      refine x_pure 1 [(9, .int .i64 t41__s41_l22)] _ _ _ (by kernel_rfl) ?_
      obtain ⟨w32, hr32, hb32, he32⟩ := store_boxagg 0 [.int .i64 x28.1, .int .i64 x28.2.1, .int .i64 x28.2.2.1, .int .i64 x28.2.2.2] #[.int .i64 x28.1, .int .i64 x28.2.1, .int .i64 x28.2.2.1, .int .i64 x28.2.2.2] tagg26 hb30 rfl rfl rfl
      refine x_store w32 (xv := .pointer (some ⟨b30, 0, none⟩)) (yv := .agg #[.int .i64 x28.1, .int .i64 x28.2.1, .int .i64 x28.2.2.1, .int .i64 x28.2.2.2]) rfl rfl rfl rfl hr32 ?_
      refine ⟨.inl rfl, ?_⟩
      have hst := Stp.ev' (ls := [[b30], [b9], blk a24_l22, [b18], blk a26_l22, M]) he32 (mem_flat 0 rfl)
      replace hb9 := he32.box hb9 (hms.apart 1 0 rfl rfl rfl _ (List.mem_singleton.2 rfl))
      replace hf7_1 := hf7_1.step hst
      replace hf13_1 := hf13_1.step hst
      replace hb18 := he32.box hb18 (hms.apart 3 0 rfl rfl rfl _ (List.mem_singleton.2 rfl))
      replace hj24_l22 := hj24_l22.step hst he32 (hms.apart 2 0 rfl rfl rfl)
      replace hj26_l22 := hj26_l22.step hst he32 (hms.apart 4 0 rfl rfl rfl)
      replace hc28 := hc28.step hst
      replace hms := hms.ev he32
      replace hev := hev.then he32 (fun b hb => .inr (hfr.at 0 rfl b hb))
      replace hb30 := hb32
      refine x_end rfl (k_then ?_)
      refine c_seq (c_plain ?_)
      refine x_fieldAddr (xv := .pointer (some ⟨b30, 0, none⟩)) (.pointer (some ⟨b30, 0, none⟩)) rfl rfl rfl (reads_field tfld26_0 _ _) ?_
      refine x_load (xv := .pointer (some ⟨b30, 0, none⟩)) (.int .i64 x28.1) rfl rfl rfl (reads_box tcell3 hb30 nn 0 _ rfl) ?_
      refine x_pure 2 [(48, .int .i64 n_s6_l16), (49, .bool (x28.1 == n_s6_l16))] _ _ _ (by kernel_rfl) ?_
      refine x_end rfl (k_then ?_)
      refine c_cond (x28.1 == n_s6_l16) rfl (fun hb => ?_) (fun hb => ?_)
      · replace h := ite_t hb h
        refine c_seq (c_plain ?_)
        refine x_fieldAddr (xv := .pointer (some ⟨b18, 0, none⟩)) (.pointer (some ⟨b18, 0, none⟩)) rfl rfl rfl (reads_field tfld24_0 _ _) ?_
        refine x_load (xv := .pointer (some ⟨b18, 0, none⟩)) (.slice a24_l22 (d24_l22).length c24_l22) rfl rfl rfl (reads_box tcell22 hb18 nn 0 _ rfl) ?_
        refine x_load (xv := .pointer (some ⟨b30, 0, none⟩)) (.agg #[.int .i64 x28.1, .int .i64 x28.2.1, .int .i64 x28.2.2.1, .int .i64 x28.2.2.2]) rfl rfl rfl (reads_boxagg 0 [.int .i64 x28.1, .int .i64 x28.2.1, .int .i64 x28.2.2.1, .int .i64 x28.2.2.2] tagg26 hb30 nn rfl) ?_
        refine x_buildSlice (vs := [(0, .agg #[.int .i64 x28.1, .int .i64 x28.2.1, .int .i64 x28.2.2.1, .int .i64 x28.2.2.2])]) #[.int .i64 x28.1, .int .i64 x28.2.1, .int .i64 x28.2.2.1, .int .i64 x28.2.2.2] 26 rfl rfl rfl (by kernel_rfl) (fun b33 w33 hq33 hb33 he33 hz33 => ?_)
        refine ⟨.inl rfl, ?_⟩
        have hms0 := hms
        have hst := Stp.ext (ls := [[b30], [b9], blk a24_l22, [b18], blk a26_l22, M]) he33
        replace hb9 := he33.box hb9 nn
        replace hf7_1 := hf7_1.step hst
        replace hf13_1 := hf13_1.step hst
        replace hb18 := he33.box hb18 nn
        replace hj24_l22 := hj24_l22.step hst he33 nn2
        replace hj26_l22 := hj26_l22.step hst he33 nn2
        replace hb30 := he33.box hb30 nn
        replace hms := hms.ev he33
        replace hev := hev.ext he33
        have hs33 : SlR (eProd (eInt .i64) (eProd (eInt .i64) (eProd (eInt .i64) (eInt .i64)))) w33 (fl [[b30], [b9], blk a24_l22, [b18], blk a26_l22, M]) (some ⟨b33, 0, none⟩) 1 ([(x28.1, x28.2.1, x28.2.2.1, x28.2.2.2)] : List (Int × Int × Int × Int)) := ro_of_box hms0 hq33 hb33 rfl rfl (cells_at (cs := [.int .i64 x28.1, .int .i64 x28.2.1, .int .i64 x28.2.2.1, .int .i64 x28.2.2.2]) (CellsOf.cons (c := [.int .i64 x28.1, .int .i64 x28.2.1, .int .i64 x28.2.2.1, .int .i64 x28.2.2.2]) ⟨[.int .i64 x28.1], [.int .i64 x28.2.1, .int .i64 x28.2.2.1, .int .i64 x28.2.2.2], rfl, rfl, ⟨[.int .i64 x28.2.1], [.int .i64 x28.2.2.1, .int .i64 x28.2.2.2], rfl, rfl, ⟨[.int .i64 x28.2.2.1], [.int .i64 x28.2.2.2], rfl, rfl, rfl⟩⟩⟩ CellsOf.nil))
        clear hb33 hms0
        have hg := guard_l h
        replace h := guard_r h
        obtain ⟨a35, c35, w35, hr35, he35, hn35, hm35, hw35⟩ := own_appendN tel22 22 hj24_l22 (mem_flat 2 rfl) hs33 hg
        refine x_builtin (vs := [.slice a24_l22 (d24_l22).length c24_l22, .slice (some ⟨b33, 0, none⟩) (([(x28.1, x28.2.1, x28.2.2.1, x28.2.2.2)] : List (Int × Int × Int × Int))).length 1]) _ w35 rfl rfl rfl rfl (run_value _ _ _ _ hr35) ?_
        refine ⟨.inl rfl, ?_⟩
        have hst : Stp (fl [[b30], [b9], blk a24_l22, [b18], blk a26_l22, M]) w33 (fl [[b30], [b9], blk a35, [b18], blk a26_l22, M]) w35 := Stp.upd 2 he35 rfl (fun b hb => (hn35 b hb).1)
        replace hb9 := he35.box hb9 (hms.apart 1 2 rfl rfl rfl _ (List.mem_singleton.2 rfl))
        replace hf7_1 := hf7_1.step hst
        replace hf13_1 := hf13_1.step hst
        replace hb18 := he35.box hb18 (hms.apart 3 2 rfl rfl rfl _ (List.mem_singleton.2 rfl))
        replace hj26_l22 := hj26_l22.step hst he35 (hms.apart 4 2 rfl rfl rfl)
        replace hb30 := he35.box hb30 (hms.apart 0 2 rfl rfl rfl _ (List.mem_singleton.2 rfl))
        replace hs33 := hs33.step hst
        replace hms : MS w35 [[b30], [b9], blk a35, [b18], blk a26_l22, M] := hms.upd 2 he35 rfl hn35
        have hfr2 : FR w.heap.size [[b30], [b9], blk a35, [b18], blk a26_l22] := hfr.upd 2 rfl hev.size (fun b hb => (hn35 b hb).1)
        replace hev := hev.then he35 (fun b hb => .inr (hfr.at 2 rfl b hb))
        replace hfr := hfr2
        clear hfr2
        replace hj24_l22 := hw35 (fl [[b30], [b9], blk a35, [b18], blk a26_l22, M]) hst.new
        clear hw35
        refine x_fieldAddr (xv := .pointer (some ⟨b18, 0, none⟩)) (.pointer (some ⟨b18, 0, none⟩)) rfl rfl rfl (reads_field tfld24_0 _ _) ?_
        obtain ⟨w36, hr36, hb36, he36⟩ := store_box 0 (.slice a35 ((d24_l22 ++ ([(x28.1, x28.2.1, x28.2.2.1, x28.2.2.2)] : List (Int × Int × Int × Int)))).length c35) #[.slice a35 ((d24_l22 ++ ([(x28.1, x28.2.1, x28.2.2.1, x28.2.2.2)] : List (Int × Int × Int × Int)))).length c35, .int .i64 x6.1.2] tcell22 hb18 rfl rfl rfl
        refine x_store w36 (xv := .pointer (some ⟨b18, 0, none⟩)) (yv := .slice a35 ((d24_l22 ++ ([(x28.1, x28.2.1, x28.2.2.1, x28.2.2.2)] : List (Int × Int × Int × Int)))).length c35) rfl rfl rfl rfl hr36 ?_
        refine ⟨.inl rfl, ?_⟩
        have hst := Stp.ev' (ls := [[b30], [b9], blk a35, [b18], blk a26_l22, M]) he36 (mem_flat 3 rfl)
        replace hb9 := he36.box hb9 (hms.apart 1 3 rfl rfl rfl _ (List.mem_singleton.2 rfl))
        replace hf7_1 := hf7_1.step hst
        replace hf13_1 := hf13_1.step hst
        replace hj24_l22 := hj24_l22.step hst he36 (hms.apart 2 3 rfl rfl rfl)
        replace hj26_l22 := hj26_l22.step hst he36 (hms.apart 4 3 rfl rfl rfl)
        replace hb30 := he36.box hb30 (hms.apart 0 3 rfl rfl rfl _ (List.mem_singleton.2 rfl))
        replace hs33 := hs33.step hst
        replace hms := hms.ev he36
        replace hev := hev.then he36 (fun b hb => .inr (hfr.at 3 rfl b hb))
        replace hb18 := hb36
        refine x_end rfl (k_then ?_)
        refine c_norm [(3, .pointer (some ⟨b9, 0, none⟩)), (4, .slice a0_13 (x12.1).length c0_13), (6, .int .i64 n_s6_l16), (7, .pointer (some ⟨b18, 0, none⟩)), (8, .slice a26_l22 (d26_l22).length c26_l22), (9, .int .i64 t41__s41_l22), (39, .slice a0_7 (x6.1.1).length c0_7), (40, .int .i64 ((x6.1.1).length : Int)), (41, .int .i64 t41__s41_l22)] ⟨rfl, rfl, rfl, rfl, rfl, rfl, rfl, rfl, rfl, trivial⟩ (fun J => ?_)
        refine c_plain ?_
        refine x_pure 3 [(56, .slice a26_l22 (d26_l22).length c26_l22), (57, .slice a0_13 (x12.1).length c0_13), (58, .int .i64 t41__s41_l22)] _ _ _ (by kernel_rfl) ?_
        obtain ⟨x37, hx37, h⟩ := bind_some h
        obtain ⟨ad37, cs37, hr37, hc37, hR⟩ := reads_index (Mo := []) tsl27 hf13_1 hx37
        obtain rfl := hR
        refine x_indexAddr (xv := .slice a0_13 (x12.1).length c0_13) (yv := .int .i64 t41__s41_l22) (.pointer (some ad37)) rfl rfl rfl rfl hr37 ?_
        refine x_load (xv := .pointer (some ad37)) (.int .i64 x37) rfl rfl rfl (reads_cell0 tcell3 hc37 (fun _ h => by cases h)) ?_
        refine x_buildSlice (vs := [(0, .int .i64 x37)]) #[.int .i64 x37] 3 rfl rfl rfl (by kernel_rfl) (fun b39 w39 hq39 hb39 he39 hz39 => ?_)
        refine ⟨.inl rfl, ?_⟩
        have hms0 := hms
        have hst := Stp.ext (ls := [[b30], [b9], blk a35, [b18], blk a26_l22, M]) he39
        replace hb9 := he39.box hb9 nn
        replace hf7_1 := hf7_1.step hst
        replace hf13_1 := hf13_1.step hst
        replace hb18 := he39.box hb18 nn
        replace hj24_l22 := hj24_l22.step hst he39 nn2
        replace hj26_l22 := hj26_l22.step hst he39 nn2
        replace hb30 := he39.box hb30 nn
        replace hc37 := hc37.step hst
        replace hms := hms.ev he39
        replace hev := hev.ext he39
        have hs39 : SlR (eInt .i64) w39 (fl [[b30], [b9], blk a35, [b18], blk a26_l22, M]) (some ⟨b39, 0, none⟩) 1 ([x37]) := ro_of_box hms0 hq39 hb39 rfl rfl (cells_at (cs := [.int .i64 x37]) (CellsOf.cons (c := [.int .i64 x37]) rfl CellsOf.nil))
        clear hb39 hms0
        have hg := guard_l h
        replace h := guard_r h
        obtain ⟨a41, c41, w41, hr41, he41, hn41, hm41, hw41⟩ := own_appendN tel27 27 hj26_l22 (mem_flat 4 rfl) hs39 hg
        refine x_builtin (vs := [.slice a26_l22 (d26_l22).length c26_l22, .slice (some ⟨b39, 0, none⟩) ([x37]).length 1]) _ w41 rfl rfl rfl rfl (run_value _ _ _ _ hr41) ?_
        refine ⟨.inl rfl, ?_⟩
        have hst : Stp (fl [[b30], [b9], blk a35, [b18], blk a26_l22, M]) w39 (fl [[b30], [b9], blk a35, [b18], blk a41, M]) w41 := Stp.upd 4 he41 rfl (fun b hb => (hn41 b hb).1)
        replace hb9 := he41.box hb9 (hms.apart 1 4 rfl rfl rfl _ (List.mem_singleton.2 rfl))
        replace hf7_1 := hf7_1.step hst
        replace hf13_1 := hf13_1.step hst
        replace hb18 := he41.box hb18 (hms.apart 3 4 rfl rfl rfl _ (List.mem_singleton.2 rfl))
        replace hj24_l22 := hj24_l22.step hst he41 (hms.apart 2 4 rfl rfl rfl)
        replace hb30 := he41.box hb30 (hms.apart 0 4 rfl rfl rfl _ (List.mem_singleton.2 rfl))
        replace hc37 := hc37.step hst
        replace hs39 := hs39.step hst
        replace hms : MS w41 [[b30], [b9], blk a35, [b18], blk a41, M] := hms.upd 4 he41 rfl hn41
        have hfr2 : FR w.heap.size [[b30], [b9], blk a35, [b18], blk a41] := hfr.upd 4 rfl hev.size (fun b hb => (hn41 b hb).1)
        replace hev := hev.then he41 (fun b hb => .inr (hfr.at 4 rfl b hb))
        replace hfr := hfr2
        clear hfr2
        replace hj26_l22 := hw41 (fl [[b30], [b9], blk a35, [b18], blk a41, M]) hst.new
        clear hw41
        refine x_pure 1 [(8, .slice a41 ((d26_l22 ++ [x37])).length c41)] _ _ _ (by kernel_rfl) ?_
        refine x_end rfl ?_
        refine k_block ?_
        refine k_then ?_
        refine c_plain ?_
        refine x_pure 2 [(63, .int .i64 (IntKind.i64.wrap (t41__s41_l22 + 1))), (41, .int .i64 (IntKind.i64.wrap (t41__s41_l22 + 1)))] _ _ _ (by kernel_rfl) ?_
        refine x_end rfl ?_
        have hx := some_inj h
        subst hx
        have hpk : MS w41 [[b9], blk a35, [b18], blk a41, M] := hms.pick [some 1, some 2, some 3, some 4, some 5] _ rfl
        have hsu : ∀ x ∈ fl [[b9], blk a35, [b18], blk a41, M], x ∈ fl [[b30], [b9], blk a35, [b18], blk a41, M] := pick_sub [some 1, some 2, some 3, some 4, some 5] _ rfl
        replace hf7_1 := hf7_1.sub hsu
        replace hf13_1 := hf13_1.sub hsu
        replace hj24_l22 := hj24_l22.sub hsu
        replace hj26_l22 := hj26_l22.sub hsu
        replace hms := hpk
        replace hfr : FR w.heap.size [[b9], blk a35, [b18], blk a41] := hfr.pick [some 1, some 2, some 3, some 4] _ rfl
        clear hpk hsu
        exact k_then ⟨(m22, (d24_l22 ++ ([(x28.1, x28.2.1, x28.2.2.1, x28.2.2.2)] : List (Int × Int × Int × Int))), (d26_l22 ++ [x37]), IntKind.i64.wrap (t41__s41_l22 + 1), a35, c35, a41, c41), ⟨rfl, rfl, rfl, rfl, rfl, rfl, rfl, rfl, trivial⟩, ⟨hn22, hev, hms, hfr, hf7_1, hb9, hf13_1, hj24_l22, hb18, hj26_l22⟩, Nat.lt_succ_self _⟩
      replace h := ite_f hb h
      refine c_skip ?_
      refine k_block ?_
      refine k_then ?_
      refine c_plain ?_
      refine x_pure 2 [(63, .int .i64 (IntKind.i64.wrap (t41__s41_l22 + 1))), (41, .int .i64 (IntKind.i64.wrap (t41__s41_l22 + 1)))] _ _ _ (by kernel_rfl) ?_
      refine x_end rfl ?_
      have hx := some_inj h
      subst hx
      have hpk : MS w32 [[b9], blk a24_l22, [b18], blk a26_l22, M] := hms.pick [some 1, some 2, some 3, some 4, some 5] _ rfl
      have hsu : ∀ x ∈ fl [[b9], blk a24_l22, [b18], blk a26_l22, M], x ∈ fl [[b30], [b9], blk a24_l22, [b18], blk a26_l22, M] := pick_sub [some 1, some 2, some 3, some 4, some 5] _ rfl
      replace hf7_1 := hf7_1.sub hsu
      replace hf13_1 := hf13_1.sub hsu
      replace hj24_l22 := hj24_l22.sub hsu
      replace hj26_l22 := hj26_l22.sub hsu
      replace hms := hpk
      replace hfr : FR w.heap.size [[b9], blk a24_l22, [b18], blk a26_l22] := hfr.pick [some 1, some 2, some 3, some 4] _ rfl
      clear hpk hsu
      exact k_then ⟨(m22, d24_l22, d26_l22, IntKind.i64.wrap (t41__s41_l22 + 1), a24_l22, c24_l22, a26_l22, c26_l22), ⟨rfl, rfl, rfl, rfl, rfl, rfl, rfl, rfl, trivial⟩, ⟨hn22, hev, hms, hfr, hf7_1, hb9, hf13_1, hj24_l22, hb18, hj26_l22⟩, Nat.lt_succ_self _⟩
    replace h := ite_f hb h
    refine c_exit ?_
    refine k_then_exit ?_
    have hx := some_inj h
    subst hx
    have hy := some_inj hn22
    subst hy
    replace h := h22
    refine k_then_exit ?_
    refine k_block_in ?_
    refine k_then ?_
    refine c_norm [(3, .pointer (some ⟨b9, 0, none⟩)), (4, .slice a0_13 (x12.1).length c0_13), (6, .int .i64 n_s6_l16), (7, .pointer (some ⟨b18, 0, none⟩)), (8, .slice a26_l22 (d26_l22).length c26_l22)] ⟨rfl, rfl, rfl, rfl, rfl, trivial⟩ (fun J => ?_)
    refine c_seq (c_plain ?_)
    refine x_load (xv := .pointer (some ⟨b18, 0, none⟩)) (.agg #[.slice a24_l22 (d24_l22).length c24_l22, .int .i64 x6.1.2]) rfl rfl rfl (reads_boxagg 0 [.slice a24_l22 (d24_l22).length c24_l22, .int .i64 x6.1.2] tagg24 hb18 nn rfl) ?_
    obtain ⟨x42, hx, h⟩ := bind_some h
    have hpk : MS wl22 ([] ++ [[b9], [b18], blk a26_l22, M]) := hms.pick [some 0, some 2, some 3, some 4] _ rfl
    have hsb0 : ∀ x ∈ fl ([] ++ [[b9], [b18], blk a26_l22, M]), x ∈ fl [[b9], blk a24_l22, [b18], blk a26_l22, M] := pick_sub [some 0, some 2, some 3, some 4] _ rfl
    have hsb : ∀ x ∈ fl ([] ++ [(fl [[b9], [b18], blk a26_l22, M])]), x ∈ fl [[b9], blk a24_l22, [b18], blk a26_l22, M] := fun x hx => hsb0 x (fl_unfold x hx)
    have hcall := job_Levels_w a24_l22 c24_l22 d24_l22 x6.1.2 _ wl22 (fl [[b9], [b18], blk a26_l22, M]) (MS.fold (P := []) hpk) (hj24_l22.ro hsb (fun b hb hb2 => pick_out hms 1 rfl [some 0, some 2, some 3, some 4] ([] ++ [[b9], [b18], blk a26_l22, M]) rfl rfl b hb (fl_unfold b hb2))) hx
    refine x_call 10 #[] #[] [.agg #[.slice a24_l22 (d24_l22).length c24_l22, .int .i64 x6.1.2]] _ rfl rfl rfl rfl hcall ?_
    rintro v w43 ⟨a0_43, c0_43, rfl, he43, hmn43, hfn43, hf43_1⟩
    clear hcall hx
    refine ⟨.inl rfl, ?_⟩
    have hpk2 : MS wl22 ([] ++ [[b9], blk a24_l22, [b18], blk a26_l22, M]) := hms.pick [some 0, some 1, some 2, some 3, some 4] _ rfl
    have hsb2 : ∀ x ∈ fl ([] ++ [[b9], blk a24_l22, [b18], blk a26_l22, M]), x ∈ fl [[b9], blk a24_l22, [b18], blk a26_l22, M] := pick_sub [some 0, some 1, some 2, some 3, some 4] _ rfl
    have hst0 := Stp.call (LS := [[b9], blk a24_l22, [b18], blk a26_l22, M]) (res := [blk a0_43]) (par := []) (R := [[b9], blk a24_l22, [b18], blk a26_l22, M]) he43 (fun b hb => hsb2 b (fl_left' (P := []) b hb)) hfn43 (NP.init _ _) (fun x hx => hsb2 x (fl_right' (P := []) x hx))
    have hsn : ∀ x ∈ fl [blk a0_43, [b9], blk a24_l22, [b18], blk a26_l22, M], x ∈ fl ([blk a0_43] ++ ([] ++ [[b9], blk a24_l22, [b18], blk a26_l22, M])) := pick_sub [some 0, some 1, some 2, some 3, some 4, some 5] _ rfl
    have hst := hst0.res hsn
    replace hb9 := he43.box hb9 ((MS.outs (P := []) hpk2 0 rfl) _ (List.mem_singleton.2 rfl))
    replace hf7_1 := hf7_1.step hst
    replace hf13_1 := hf13_1.step hst
    replace hb18 := he43.box hb18 ((MS.outs (P := []) hpk2 2 rfl) _ (List.mem_singleton.2 rfl))
    replace hj24_l22 := hj24_l22.step hst he43 (MS.outs (P := []) hpk2 1 rfl)
    replace hj26_l22 := hj26_l22.step hst he43 (MS.outs (P := []) hpk2 3 rfl)
    replace hms : MS w43 [blk a0_43, [b9], blk a24_l22, [b18], blk a26_l22, M] := (MS.call (P := []) (R := [[b9], blk a24_l22, [b18], blk a26_l22, M]) (res := [blk a0_43]) (par := []) hpk2 he43 hmn43 hfn43 (NP.init _ _)).pick [some 0, some 1, some 2, some 3, some 4, some 5] _ rfl
    have hfr2 : FR w.heap.size [blk a0_43, [b9], blk a24_l22, [b18], blk a26_l22] := (FR.cons (fun b hb => Nat.le_trans hev.size (hfn43.at 0 rfl b hb)) (FR.cons (hfr.at 0 rfl) (FR.cons (hfr.at 1 rfl) (FR.cons (hfr.at 2 rfl) (FR.cons (hfr.at 3 rfl) (FR.nil _))))))
    replace hev := hev.ext he43
    replace hfr := hfr2
    clear hfr2
    replace hf43_1 := OwnS.plain (M' := fl [blk a0_43, [b9], blk a24_l22, [b18], blk a26_l22, M]) (plain_int _) hf43_1
    clear hpk hsb hsb0 hpk2 hsb2 hst0 hsn hst
    have hpk : MS w43 [[b9], blk a24_l22, [b18], blk a26_l22, M] := hms.pick [some 1, some 2, some 3, some 4, some 5] _ rfl
    have hsu : ∀ x ∈ fl [[b9], blk a24_l22, [b18], blk a26_l22, M], x ∈ fl [blk a0_43, [b9], blk a24_l22, [b18], blk a26_l22, M] := pick_sub [some 1, some 2, some 3, some 4, some 5] _ rfl
    replace hf7_1 := hf7_1.sub hsu
    replace hf13_1 := hf13_1.sub hsu
    replace hj24_l22 := hj24_l22.sub hsu
    replace hj26_l22 := hj26_l22.sub hsu
    replace hf43_1 := hf43_1.ro hsu (pick_out hms 0 rfl [some 1, some 2, some 3, some 4, some 5] [[b9], blk a24_l22, [b18], blk a26_l22, M] rfl rfl)
    replace hms := hpk
    replace hfr : FR w.heap.size [[b9], blk a24_l22, [b18], blk a26_l22] := hfr.pick [some 1, some 2, some 3, some 4] _ rfl
    clear hpk hsu
    refine x_pure 5 [(64, .tuple #[.slice a0_43 (x42.1).length c0_43, .int .i64 x42.2]), (67, .slice a0_43 (x42.1).length c0_43), (68, .int .i64 x42.2), (11, .slice a0_43 (x42.1).length c0_43), (12, .int .i64 x42.2)] _ _ _ (by kernel_rfl) ?_
    refine x_end rfl (k_then ?_)
    refine c_seq (c_plain ?_)
    refine x_pure 3 [(69, .int .i64 x42.2), (70, .bool (x42.2 != 0)), (71, .bool (x42.2 != 0))] _ _ _ (by kernel_rfl) ?_
    refine x_split 71 (x42.2 != 0) rfl (fun hb => ?_) (fun hb => ?_)
    · replace h := ite_t hb h
      refine x_pure 5 [(72, undef), (73, undef), (74, undef), (75, undef), (76, .bool true)] _ _ _ (by kernel_rfl) ?_
      refine x_end rfl (k_then ?_)
      refine c_norm [(3, .pointer (some ⟨b9, 0, none⟩)), (4, .slice a0_13 (x12.1).length c0_13), (6, .int .i64 n_s6_l16), (76, .bool true)] ⟨rfl, rfl, rfl, rfl, trivial⟩ (fun J => ?_)
      refine c_true rfl ?_
      refine c_seq (c_plain ?_)
      refine x_pure 1 [(2, .bool false)] _ _ _ (by kernel_rfl) ?_
      refine x_end rfl (k_then ?_)
      refine c_ret ?_
      refine k_block_ret ?_
      refine k_then_ret ?_
      have hx := some_inj h
      subst hx
      have hy := some_inj hn16
      subst hy
      replace h := h16
      refine k_then_ret ?_
      refine k_block_ret ?_
      refine k_then_ret ?_
      refine r_ret (r_vals [.bool false] ⟨rfl, trivial⟩ ?_)
      have hx := some_inj h
      subst hx
      have hmr : MS w43 [M] := hms.pick [some 4] _ rfl
      have hsu : ∀ x ∈ fl [M], x ∈ fl [[b9], blk a24_l22, [b18], blk a26_l22, M] := pick_sub [some 4] _ rfl
      exact ⟨rfl, hev⟩
    replace h := ite_f hb h
    refine x_pure 2 [(72, .slice a0_43 (x42.1).length c0_43), (73, .slice a26_l22 (d26_l22).length c26_l22)] _ _ _ (by kernel_rfl) ?_
    obtain ⟨x45, hx, h⟩ := bind_some h
    have hpk : MS w43 ([] ++ [[b9], blk a24_l22, [b18], M]) := hms.pick [some 0, some 1, some 2, some 4] _ rfl
    have hsb0 : ∀ x ∈ fl ([] ++ [[b9], blk a24_l22, [b18], M]), x ∈ fl [[b9], blk a24_l22, [b18], blk a26_l22, M] := pick_sub [some 0, some 1, some 2, some 4] _ rfl
    have hsb : ∀ x ∈ fl ([] ++ [(fl [[b9], blk a24_l22, [b18], M])]), x ∈ fl [[b9], blk a24_l22, [b18], blk a26_l22, M] := fun x hx => hsb0 x (fl_unfold x hx)
    have hcall := gen_Ints_w a0_43 c0_43 x42.1 a26_l22 c26_l22 d26_l22 _ w43 (fl [[b9], blk a24_l22, [b18], M]) (MS.fold (P := []) hpk) (hf43_1.sub hsb) (hj26_l22.ro hsb (fun b hb hb2 => pick_out hms 3 rfl [some 0, some 1, some 2, some 4] ([] ++ [[b9], blk a24_l22, [b18], M]) rfl rfl b hb (fl_unfold b hb2))) hx
    refine x_call 16 #[] #[] [.slice a0_43 (x42.1).length c0_43, .slice a26_l22 (d26_l22).length c26_l22] _ rfl rfl rfl rfl hcall ?_
    rintro v w46 ⟨rfl, he46⟩
    clear hcall hx
    refine ⟨.inl rfl, ?_⟩
    have hst := Stp.ext (ls := [[b9], blk a24_l22, [b18], blk a26_l22, M]) he46
    replace hb9 := he46.box hb9 nn
    replace hf7_1 := hf7_1.step hst
    replace hf13_1 := hf13_1.step hst
    replace hb18 := he46.box hb18 nn
    replace hj24_l22 := hj24_l22.step hst he46 nn2
    replace hj26_l22 := hj26_l22.step hst he46 nn2
    replace hf43_1 := hf43_1.step hst
    replace hms := hms.ev he46
    replace hev := hev.ext he46
    clear hpk hsb hsb0
    refine x_pure 2 [(75, .bool (!x45)), (76, .bool (!x45))] _ _ _ (by kernel_rfl) ?_
    refine x_end rfl (k_then ?_)
    refine c_norm [(3, .pointer (some ⟨b9, 0, none⟩)), (4, .slice a0_13 (x12.1).length c0_13), (6, .int .i64 n_s6_l16), (76, .bool (!x45))] ⟨rfl, rfl, rfl, rfl, trivial⟩ (fun J => ?_)
    refine c_cond (!x45) rfl (fun hb => ?_) (fun hb => ?_)
    · replace h := ite_t hb h
      refine c_seq (c_plain ?_)
      refine x_pure 1 [(2, .bool false)] _ _ _ (by kernel_rfl) ?_
      refine x_end rfl (k_then ?_)
      refine c_ret ?_
      refine k_block_ret ?_
      refine k_then_ret ?_
      have hx := some_inj h
      subst hx
      have hy := some_inj hn16
      subst hy
      replace h := h16
      refine k_then_ret ?_
      refine k_block_ret ?_
      refine k_then_ret ?_
      refine r_ret (r_vals [.bool false] ⟨rfl, trivial⟩ ?_)
      have hx := some_inj h
      subst hx
      have hmr : MS w46 [M] := hms.pick [some 4] _ rfl
      have hsu : ∀ x ∈ fl [M], x ∈ fl [[b9], blk a24_l22, [b18], blk a26_l22, M] := pick_sub [some 4] _ rfl
      exact ⟨rfl, hev⟩
    replace h := ite_f hb h
    refine c_skip ?_
    refine k_block ?_
    refine k_then ?_
    refine c_plain ?_
    refine x_pure 3 [(33, .int .i64 n_s6_l16), (34, .int .i64 (IntKind.i64.wrap (n_s6_l16 + 1))), (6, .int .i64 (IntKind.i64.wrap (n_s6_l16 + 1)))] _ _ _ (by kernel_rfl) ?_
    refine x_end rfl ?_
    have hx := some_inj h
    subst hx
    have hpk : MS w46 [[b9], M] := hms.pick [some 0, some 4] _ rfl
    have hsu : ∀ x ∈ fl [[b9], M], x ∈ fl [[b9], blk a24_l22, [b18], blk a26_l22, M] := pick_sub [some 0, some 4] _ rfl
    replace hf7_1 := hf7_1.sub hsu
    replace hf13_1 := hf13_1.sub hsu
    replace hms := hpk
    replace hfr : FR w.heap.size [[b9]] := hfr.pick [some 0] _ rfl
    clear hpk hsu
    exact k_then ⟨(m16, IntKind.i64.wrap (n_s6_l16 + 1)), ⟨rfl, rfl, rfl, trivial⟩, ⟨hn16, hev, hms, hfr, hf7_1, hb9, hf13_1⟩, Nat.lt_succ_self _⟩
  replace h := ite_f hb h
  refine c_exit ?_
  refine k_then_exit ?_
  have hx := some_inj h
  subst hx
  have hy := some_inj hn16
  subst hy
  replace h := h16
  refine k_then_exit ?_
  refine k_block_in ?_
  refine k_then ?_
  refine c_norm [] trivial (fun J => ?_)
  refine c_seq (c_plain ?_)
  obtain ⟨x47, hx, h⟩ := bind_some h
  have hcall := law11_sane_w _ wl16 hx
  refine x_call 12 #[] #[] [] _ rfl rfl rfl rfl hcall ?_
  rintro v w48 ⟨rfl, he48⟩
  clear hcall hx
  refine ⟨.inl rfl, ?_⟩
  have hst := Stp.ext (ls := [[b9], M]) he48
  replace hb9 := he48.box hb9 nn
  replace hf7_1 := hf7_1.step hst
  replace hms := hms.ev he48
  replace hev := hev.ext he48
  refine x_pure 1 [(2, .bool x47)] _ _ _ (by kernel_rfl) ?_
  refine x_end rfl (k_then ?_)
  refine c_ret ?_
  refine r_ret (r_vals [.bool x47] ⟨rfl, trivial⟩ ?_)
  have hx := some_inj h
  subst hx
  have hmr : MS w48 [M] := hms.pick [some 1] _ rfl
  have hsu : ∀ x ∈ fl [M], x ∈ fl [[b9], M] := pick_sub [some 1] _ rfl
  exact ⟨rfl, hev⟩
end Go.Proofs.Ytacimonplnlmgaa
