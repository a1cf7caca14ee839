/- Walks, printed by program: each function returns what the partial function of the same name returns. Conditions: those of each theorem. -/
import Derived.Test.YtgdaanhiagoonaaGT
import Derived.Test.YtgdaanhiagoonaaGgen
import Derived.Test.YtgdaanhiagoonaaGlaw13sane
import Derived.Test.YtgdaanhiagoonaaGleastcode
import Derived.Test.YtgdaanhiagoonaaGr11
import Derived.Test.YtgdaanhiagoonaaGr12
set_option linter.unusedVariables false
set_option linter.unusedSimpArgs false
set_option maxRecDepth 4000
namespace Go.Proofs.Ytgdaanhiagoonaa
open Go Go.V Go.Proofs
def law13_LeastcodeLeast_L36 (x6 : ((List (Int × Int × Int × Int)) × Int) × Int) (x12 : (Int × (List Int)) × Int) (t38__s38_l22 : Int) (x34 : Int × Int) (s : Bool × Int) : Option (Step (Bool × Int) Bool) :=
match s with
| (free_s11_l36, t79__s79_l36) =>
(if (decide (t79__s79_l36 < ((x12.1.2).length : Int))) = true then
(if free_s11_l36 = true then
((r11_Kind x6.1.1 x6.1.2 t79__s79_l36 t38__s38_l22).bind fun x38 =>
(if (x38 == 0) = true then
some (.next (true, IntKind.i64.wrap (t79__s79_l36 + 1)))
else
((idx x12.1.2 t79__s79_l36).bind fun x40 =>
((r11_Strict x6.1.1 x6.1.2 t79__s79_l36 t38__s38_l22).bind fun x42 =>
some (.next (decide ((IntKind.i64.wrap (x40 + x42)) ≤ x34.1), IntKind.i64.wrap (t79__s79_l36 + 1)))))))
else
some (.next (false, IntKind.i64.wrap (t79__s79_l36 + 1))))
else
some (.done free_s11_l36))

def law13_LeastcodeLeast_L22 (x6 : ((List (Int × Int × Int × Int)) × Int) × Int) (x12 : (Int × (List Int)) × Int) (s : Int) : Option (Step Int (Unit ⊕ Unit)) :=
match s with
| t38__s38_l22 =>
(if (decide (t38__s38_l22 < ((x12.1.2).length : Int))) = true then
((idx x12.1.2 t38__s38_l22).bind fun x24 =>
((idx x6.1.1 t38__s38_l22).bind fun x26 =>
((r12_Rank x24 x26.2.2.1 x6.1.2).bind fun x28 =>
(if (x28.2 != 0) = true then
some (.done (.inl ()))
else
(if (x28.1 == 0) = true then
some (.next (IntKind.i64.wrap (t38__s38_l22 + 1)))
else
((idx x6.1.1 t38__s38_l22).bind fun x32 =>
((r12_Nth (IntKind.i64.wrap (x28.1 - 1)) x32.2.2.1 x6.1.2).bind fun x34 =>
((loop (law13_LeastcodeLeast_L36 x6 x12 t38__s38_l22 x34) (true, 0)).bind fun d => match d with
| free_s11_x36 => (if free_s11_x36 = true then
some (.done (.inl ()))
else
some (.next (IntKind.i64.wrap (t38__s38_l22 + 1))))))))))))
else
some (.done (.inr ())))

def law13_LeastcodeLeast (p0 : List Int) : Option Bool :=
((gen_New p0).bind fun x2 =>
((gen_Maker_Job x2.1 x2.2 14).bind fun x6 =>
((leastcode_Least x6.1.1 x6.1.2).bind fun x12 =>
(if (x12.2 != 0) = true then
(if (x12.2 == 15) = true then
((law13_sane).bind fun x19 =>
some x19)
else
some false)
else
(if (((x12.1.2).length : Int) != ((x6.1.1).length : Int)) = true then
some false
else
((loop (law13_LeastcodeLeast_L22 x6 x12) 0).bind fun d => match d with
| (.inl _) => some false
| (.inr _) => ((law13_sane).bind fun x44 =>
some x44)))))))

theorem law13_LeastcodeLeast_w (a_p0 : Option Addr) (c_p0 : Nat) (p0 : List Int) (r : Bool) (w : World) (M : List Nat) (hms : MS w [M]) (hs_p0 : SlR (eInt .i64) w (fl [M]) a_p0 c_p0 p0) (h : law13_LeastcodeLeast p0 = some r) : CallVC Try.prog 6 [.slice a_p0 (p0).length c_p0] w fun v w' => v = .bool r ∧ Ev [] w w' := by
  refine calls_vc hmx Try.func6 (by kernel_rfl) rfl (rs := [.tmp 2]) rfl (by kernel_rfl) (args := [.slice a_p0 (p0).length c_p0]) rfl ?_
  have hev : Ev [] w w := Ev.refl _ _
  have hfr : FR w.heap.size [] := FR.nil _
  refine c_seq (c_plain ?_)
  refine x_pure 1 [(2, .bool false)] _ _ _ (by kernel_rfl) ?_
  refine x_end rfl (k_then ?_)
  refine c_seq (c_plain ?_)
  refine x_pure 1 [(13, .slice a_p0 (p0).length c_p0)] _ _ _ (by kernel_rfl) ?_
  obtain ⟨x2, hx, h⟩ := bind_some h
  have hpk : MS w ([] ++ [M]) := hms.pick [some 0] _ rfl
  have hsb0 : ∀ x ∈ fl ([] ++ [M]), x ∈ fl [M] := pick_sub [some 0] _ rfl
  have hsb : ∀ x ∈ fl ([] ++ [(fl [M])]), x ∈ fl [M] := fun x hx => hsb0 x (fl_unfold x hx)
  have hcall := gen_New_w a_p0 c_p0 p0 _ w (fl [M]) (MS.fold (P := []) hpk) (hs_p0.sub hsb) hx
  refine x_call 14 #[] #[] [.slice a_p0 (p0).length c_p0] _ rfl rfl rfl rfl hcall ?_
  rintro v w3 ⟨b0_3, a1_3, c1_3, rfl, he3, hmn3, hfn3, hf3_1, hf3_2⟩
  clear hcall hx
  refine ⟨.inl rfl, ?_⟩
  have hpk2 : MS w ([] ++ [M]) := hms.pick [some 0] _ rfl
  have hsb2 : ∀ x ∈ fl ([] ++ [M]), x ∈ fl [M] := pick_sub [some 0] _ rfl
  have hst0 := Stp.call (LS := [M]) (res := [[b0_3]]) (par := []) (R := [M]) he3 (fun b hb => hsb2 b (fl_left' (P := []) b hb)) hfn3 (NP.init _ _) (fun x hx => hsb2 x (fl_right' (P := []) x hx))
  have hsn : ∀ x ∈ fl [[b0_3], M], x ∈ fl ([[b0_3]] ++ ([] ++ [M])) := pick_sub [some 0, some 1] _ rfl
  have hst := hst0.res hsn
  replace hs_p0 := hs_p0.step hst
  replace hms : MS w3 [[b0_3], M] := (MS.call (P := []) (R := [M]) (res := [[b0_3]]) (par := []) hpk2 he3 hmn3 hfn3 (NP.init _ _)).pick [some 0, some 1] _ rfl
  have hfr2 : FR w.heap.size [[b0_3]] := (FR.cons (fun b hb => Nat.le_trans hev.size (hfn3.at 0 rfl b hb)) (FR.nil _))
  replace hev := hev.ext he3
  replace hfr := hfr2
  clear hfr2
  have hsp : ∀ x ∈ fl [[b0_3], M], x ∈ fl ([[b0_3]] ++ ([] ++ [(fl [M])])) := fun x hx => fl_tot (res := [[b0_3]]) (par := []) (R := [M]) x (hsn x hx)
  replace hf3_2 := hf3_2.sub hsp
  clear hpk hsb hsb0 hpk2 hsb2 hst0 hsn hst
  obtain ⟨x6, hx, h⟩ := bind_some h
  have hpk : MS w3 ([[b0_3]] ++ [M]) := hms.pick [some 0, some 1] _ rfl
  have hsb0 : ∀ x ∈ fl ([[b0_3]] ++ [M]), x ∈ fl [[b0_3], M] := pick_sub [some 0, some 1] _ rfl
  have hsb : ∀ x ∈ fl ([[b0_3]] ++ [(fl [M])]), x ∈ fl [[b0_3], M] := fun x hx => hsb0 x (fl_unfold x hx)
  have hcall := gen_Maker_Job_w b0_3 a1_3 c1_3 x2.1 x2.2 14 _ w3 (fl [M]) (hpk.fold (P := [[b0_3]])) (hf3_2.sub hsb) hf3_1 hx
  refine x_call 15 #[] #[] [.pointer (some ⟨b0_3, 0, none⟩), .int .i64 14] _ rfl rfl rfl rfl hcall ?_
  rintro v w7 ⟨a0_7, c0_7, rfl, he7, hp7_0, hmn7, hfn7, hf7_1⟩
  clear hcall hx
  refine ⟨.inl rfl, ?_⟩
  have hpk2 : MS w3 ([[b0_3]] ++ [M]) := hms.pick [some 0, some 1] _ rfl
  have hsb2 : ∀ x ∈ fl ([[b0_3]] ++ [M]), x ∈ fl [[b0_3], M] := pick_sub [some 0, some 1] _ rfl
  have hst0 := Stp.call (LS := [[b0_3], M]) (res := [blk a0_7]) (par := [[b0_3]]) (R := [M]) he7 (fun b hb => hsb2 b (fl_left' (P := [[b0_3]]) b hb)) hfn7 (NP.init _ _) (fun x hx => hsb2 x (fl_right' (P := [[b0_3]]) x hx))
  have hsn : ∀ x ∈ fl [blk a0_7, [b0_3], M], x ∈ fl ([blk a0_7] ++ ([[b0_3]] ++ [M])) := pick_sub [some 0, some 1, some 2] _ rfl
  have hst := hst0.res hsn
  replace hs_p0 := hs_p0.step hst
  replace hf3_2 := hf3_2.step hst
  replace hms : MS w7 [blk a0_7, [b0_3], M] := (MS.call (P := [[b0_3]]) (R := [M]) (res := [blk a0_7]) (par := [[b0_3]]) hpk2 he7 hmn7 hfn7 (NP.init _ _)).pick [some 0, some 1, some 2] _ rfl
  have hPf : ∀ b ∈ fl [[b0_3]], w.heap.size ≤ b := FR.mem (ls := [[b0_3]]) (hfr.pick [some 0] _ rfl)
  have hfr2 : FR w.heap.size [blk a0_7, [b0_3]] := (FR.cons (fun b hb => Nat.le_trans hev.size (hfn7.at 0 rfl b hb)) (FR.cons (hfr.at 0 rfl) (FR.nil _)))
  replace hev := hev.then he7 (fun b hb => .inr (hPf b hb))
  replace hfr := hfr2
  clear hfr2
  replace hf3_1 := hp7_0
  replace hf7_1 := OwnS.plain (M' := fl [blk a0_7, [b0_3], M]) (plain_prod (plain_int _) (plain_prod (plain_int _) (plain_prod (plain_int _) (plain_int _)))) hf7_1
  clear hpk hsb hsb0 hpk2 hsb2 hst0 hsn hst
  have hpk : MS w7 [[b0_3], M] := hms.pick [some 1, some 2] _ rfl
  have hsu : ∀ x ∈ fl [[b0_3], M], x ∈ fl [blk a0_7, [b0_3], M] := pick_sub [some 1, some 2] _ rfl
  replace hs_p0 := hs_p0.sub hsu
  replace hf3_2 := hf3_2.sub hsu
  replace hf7_1 := hf7_1.ro hsu (pick_out hms 0 rfl [some 1, some 2] [[b0_3], M] rfl rfl)
  replace hms := hpk
  replace hfr : FR w.heap.size [[b0_3]] := hfr.pick [some 1] _ rfl
  clear hpk hsu
  refine x_alloc (z := .agg #[.slice none 0 0, .int .i64 0]) rfl rfl (by kernel_rfl) (fun b9 w9 hq9 hb9 he9 hz9 => ?_)
  replace hb9 : w9.heap[b9]? = some (.cells #[.slice none 0 0, .int .i64 0] 24 (0, 0)) := hb9
  refine ⟨.inl rfl, ?_⟩
  have hst := Stp.box (ls := [[b0_3], M]) he9 hq9
  replace hs_p0 := hs_p0.step hst
  replace hf3_1 := he9.box hf3_1 nn
  replace hf3_2 := hf3_2.step hst
  replace hf7_1 := hf7_1.step hst
  replace hms := hms.box he9 hq9 hb9
  replace hfr := hfr.box hev.size hq9
  replace hev := hev.ext he9
  obtain ⟨w11, hr11, hb11, he11⟩ := store_boxagg 0 [.slice a0_7 (x6.1.1).length c0_7, .int .i64 x6.1.2] #[.slice a0_7 (x6.1.1).length c0_7, .int .i64 x6.1.2] tagg24 hb9 rfl rfl rfl
  refine x_store w11 (xv := .pointer (some ⟨b9, 0, none⟩)) (yv := .agg #[.slice a0_7 (x6.1.1).length c0_7, .int .i64 x6.1.2]) rfl rfl rfl rfl hr11 ?_
  refine ⟨.inl rfl, ?_⟩
  have hst := Stp.ev' (ls := [[b9], [b0_3], M]) he11 (mem_flat 0 rfl)
  replace hs_p0 := hs_p0.step hst
  replace hf3_1 := he11.box hf3_1 (hms.apart 1 0 rfl rfl rfl _ (List.mem_singleton.2 rfl))
  replace hf3_2 := hf3_2.step hst
  replace hf7_1 := hf7_1.step hst
  replace hms := hms.ev he11
  replace hev := hev.then he11 (fun b hb => .inr (hfr.at 0 rfl b hb))
  replace hb9 := hb11
  refine x_end rfl (k_then ?_)
  refine c_seq (c_plain ?_)
  refine x_load (xv := .pointer (some ⟨b9, 0, none⟩)) (.agg #[.slice a0_7 (x6.1.1).length c0_7, .int .i64 x6.1.2]) rfl rfl rfl (reads_boxagg 0 [.slice a0_7 (x6.1.1).length c0_7, .int .i64 x6.1.2] tagg24 hb9 nn rfl) ?_
  obtain ⟨x12, hx, h⟩ := bind_some h
  have hpk : MS w11 ([] ++ [[b9], [b0_3], M]) := hms.pick [some 0, some 1, some 2] _ rfl
  have hsb0 : ∀ x ∈ fl ([] ++ [[b9], [b0_3], M]), x ∈ fl [[b9], [b0_3], M] := pick_sub [some 0, some 1, some 2] _ rfl
  have hsb : ∀ x ∈ fl ([] ++ [(fl [[b9], [b0_3], M])]), x ∈ fl [[b9], [b0_3], M] := fun x hx => hsb0 x (fl_unfold x hx)
  have hcall := leastcode_Least_w a0_7 c0_7 x6.1.1 x6.1.2 _ w11 (fl [[b9], [b0_3], M]) (MS.fold (P := []) hpk) (hf7_1.sub hsb) hx
  refine x_call 12 #[] #[] [.agg #[.slice a0_7 (x6.1.1).length c0_7, .int .i64 x6.1.2]] _ rfl rfl rfl rfl hcall ?_
  rintro v w13 ⟨a0_13, c0_13, rfl, he13, hmn13, hfn13, hf13_1⟩
  clear hcall hx
  refine ⟨.inl rfl, ?_⟩
  have hpk2 : MS w11 ([] ++ [[b9], [b0_3], M]) := hms.pick [some 0, some 1, some 2] _ rfl
  have hsb2 : ∀ x ∈ fl ([] ++ [[b9], [b0_3], M]), x ∈ fl [[b9], [b0_3], M] := pick_sub [some 0, some 1, some 2] _ rfl
  have hst0 := Stp.call (LS := [[b9], [b0_3], M]) (res := [blk a0_13]) (par := []) (R := [[b9], [b0_3], M]) he13 (fun b hb => hsb2 b (fl_left' (P := []) b hb)) hfn13 (NP.init _ _) (fun x hx => hsb2 x (fl_right' (P := []) x hx))
  have hsn : ∀ x ∈ fl [blk a0_13, [b9], [b0_3], M], x ∈ fl ([blk a0_13] ++ ([] ++ [[b9], [b0_3], M])) := pick_sub [some 0, some 1, some 2, some 3] _ rfl
  have hst := hst0.res hsn
  replace hf3_1 := he13.box hf3_1 ((MS.outs (P := []) hpk2 1 rfl) _ (List.mem_singleton.2 rfl))
  replace hf3_2 := hf3_2.step hst
  replace hf7_1 := hf7_1.step hst
  replace hb9 := he13.box hb9 ((MS.outs (P := []) hpk2 0 rfl) _ (List.mem_singleton.2 rfl))
  replace hms : MS w13 [blk a0_13, [b9], [b0_3], M] := (MS.call (P := []) (R := [[b9], [b0_3], M]) (res := [blk a0_13]) (par := []) hpk2 he13 hmn13 hfn13 (NP.init _ _)).pick [some 0, some 1, some 2, some 3] _ rfl
  have hfr2 : FR w.heap.size [blk a0_13, [b9], [b0_3]] := (FR.cons (fun b hb => Nat.le_trans hev.size (hfn13.at 0 rfl b hb)) (FR.cons (hfr.at 0 rfl) (FR.cons (hfr.at 1 rfl) (FR.nil _))))
  replace hev := hev.ext he13
  replace hfr := hfr2
  clear hfr2
  replace hf13_1 := OwnS.plain (M' := fl [blk a0_13, [b9], [b0_3], M]) (plain_int _) hf13_1
  clear hpk hsb hsb0 hpk2 hsb2 hst0 hsn hst
  have hpk : MS w13 [[b9], [b0_3], M] := hms.pick [some 1, some 2, some 3] _ rfl
  have hsu : ∀ x ∈ fl [[b9], [b0_3], M], x ∈ fl [blk a0_13, [b9], [b0_3], M] := pick_sub [some 1, some 2, some 3] _ rfl
  replace hf3_2 := hf3_2.sub hsu
  replace hf7_1 := hf7_1.sub hsu
  replace hf13_1 := hf13_1.ro hsu (pick_out hms 0 rfl [some 1, some 2, some 3] [[b9], [b0_3], M] rfl rfl)
  replace hms := hpk
  replace hfr : FR w.heap.size [[b9], [b0_3]] := hfr.pick [some 1, some 2] _ rfl
  clear hpk hsu
  refine x_pure 3 [(16, .tuple #[.agg #[.int .i64 x12.1.1, .slice a0_13 (x12.1.2).length c0_13], .int .i64 x12.2]), (19, .agg #[.int .i64 x12.1.1, .slice a0_13 (x12.1.2).length c0_13]), (20, .int .i64 x12.2)] _ _ _ (by kernel_rfl) ?_
  refine x_alloc (z := .agg #[.int .i64 0, .slice none 0 0]) rfl rfl (by kernel_rfl) (fun b15 w15 hq15 hb15 he15 hz15 => ?_)
  replace hb15 : w15.heap[b15]? = some (.cells #[.int .i64 0, .slice none 0 0] 29 (0, 0)) := hb15
  refine ⟨.inl rfl, ?_⟩
  have hst := Stp.box (ls := [[b9], [b0_3], M]) he15 hq15
  replace hf3_1 := he15.box hf3_1 nn
  replace hf3_2 := hf3_2.step hst
  replace hf7_1 := hf7_1.step hst
  replace hb9 := he15.box hb9 nn
  replace hf13_1 := hf13_1.step hst
  replace hms := hms.box he15 hq15 hb15
  replace hfr := hfr.box hev.size hq15
  replace hev := hev.ext he15
  obtain ⟨w17, hr17, hb17, he17⟩ := store_boxagg 0 [.int .i64 x12.1.1, .slice a0_13 (x12.1.2).length c0_13] #[.int .i64 x12.1.1, .slice a0_13 (x12.1.2).length c0_13] tagg29 hb15 rfl rfl rfl
  refine x_store w17 (xv := .pointer (some ⟨b15, 0, none⟩)) (yv := .agg #[.int .i64 x12.1.1, .slice a0_13 (x12.1.2).length c0_13]) rfl rfl rfl rfl hr17 ?_
  refine ⟨.inl rfl, ?_⟩
  have hst := Stp.ev' (ls := [[b15], [b9], [b0_3], M]) he17 (mem_flat 0 rfl)
  replace hf3_1 := he17.box hf3_1 (hms.apart 2 0 rfl rfl rfl _ (List.mem_singleton.2 rfl))
  replace hf3_2 := hf3_2.step hst
  replace hf7_1 := hf7_1.step hst
  replace hb9 := he17.box hb9 (hms.apart 1 0 rfl rfl rfl _ (List.mem_singleton.2 rfl))
  replace hf13_1 := hf13_1.step hst
  replace hms := hms.ev he17
  replace hev := hev.then he17 (fun b hb => .inr (hfr.at 0 rfl b hb))
  replace hb15 := hb17
  refine x_pure 1 [(5, .int .i64 x12.2)] _ _ _ (by kernel_rfl) ?_
  refine x_end rfl (k_then ?_)
  refine c_seq ?_
  refine c_seq (c_plain ?_)
  refine x_pure 2 [(21, .int .i64 x12.2), (22, .bool (x12.2 != 0))] _ _ _ (by kernel_rfl) ?_
  refine x_end rfl (k_then ?_)
  refine c_norm [(3, .pointer (some ⟨b9, 0, none⟩)), (4, .pointer (some ⟨b15, 0, none⟩)), (5, .int .i64 x12.2), (22, .bool (x12.2 != 0))] ⟨rfl, rfl, rfl, rfl, trivial⟩ (fun J => ?_)
  refine c_cond (x12.2 != 0) rfl (fun hb => ?_) (fun hb => ?_)
  · replace h := ite_t hb h
    refine c_seq (c_plain ?_)
    refine x_pure 3 [(23, .int .i64 x12.2), (24, .bool (x12.2 == 15)), (25, .bool (x12.2 == 15))] _ _ _ (by kernel_rfl) ?_
    refine x_split 25 (x12.2 == 15) rfl (fun hb => ?_) (fun hb => ?_)
    · replace h := ite_t hb h
      obtain ⟨x19, hx, h⟩ := bind_some h
      have hcall := law13_sane_w _ w17 hx
      refine x_call 13 #[] #[] [] _ rfl rfl rfl rfl hcall ?_
      rintro v w20 ⟨rfl, he20⟩
      clear hcall hx
      refine ⟨.inl rfl, ?_⟩
      have hst := Stp.ext (ls := [[b15], [b9], [b0_3], M]) he20
      replace hf3_1 := he20.box hf3_1 nn
      replace hf3_2 := hf3_2.step hst
      replace hf7_1 := hf7_1.step hst
      replace hb9 := he20.box hb9 nn
      replace hf13_1 := hf13_1.step hst
      replace hb15 := he20.box hb15 nn
      replace hms := hms.ev he20
      replace hev := hev.ext he20
      refine x_pure 2 [(27, .bool x19), (2, .bool x19)] _ _ _ (by kernel_rfl) ?_
      refine x_end rfl (k_then ?_)
      refine c_ret ?_
      refine k_then_ret ?_
      refine r_ret (r_vals [.bool x19] ⟨rfl, trivial⟩ ?_)
      have hx := some_inj h
      subst hx
      have hmr : MS w20 [M] := hms.pick [some 3] _ rfl
      have hsu : ∀ x ∈ fl [M], x ∈ fl [[b15], [b9], [b0_3], M] := pick_sub [some 3] _ rfl
      exact ⟨rfl, hev⟩
    replace h := ite_f hb h
    refine x_pure 3 [(26, undef), (27, .bool false), (2, .bool false)] _ _ _ (by kernel_rfl) ?_
    refine x_end rfl (k_then ?_)
    refine c_ret ?_
    refine k_then_ret ?_
    refine r_ret (r_vals [.bool false] ⟨rfl, trivial⟩ ?_)
    have hx := some_inj h
    subst hx
    have hmr : MS w17 [M] := hms.pick [some 3] _ rfl
    have hsu : ∀ x ∈ fl [M], x ∈ fl [[b15], [b9], [b0_3], M] := pick_sub [some 3] _ rfl
    exact ⟨rfl, hev⟩
  replace h := ite_f hb h
  refine c_skip ?_
  refine k_then ?_
  refine c_seq ?_
  refine c_seq (c_plain ?_)
  refine x_fieldAddr (xv := .pointer (some ⟨b15, 0, none⟩)) (.pointer (some ⟨b15, 1, none⟩)) rfl rfl rfl (reads_field tfld29_1 _ _) ?_
  refine x_load (xv := .pointer (some ⟨b15, 1, none⟩)) (.slice a0_13 (x12.1.2).length c0_13) rfl rfl rfl (reads_box tcell27 hb15 nn 1 _ rfl) ?_
  refine x_len (vs := [.slice a0_13 (x12.1.2).length c0_13]) (.int .i64 ((x12.1.2).length : Int)) rfl rfl rfl (reads_len tsl27 _ _ _ _ _) ?_
  refine x_fieldAddr (xv := .pointer (some ⟨b9, 0, none⟩)) (.pointer (some ⟨b9, 0, none⟩)) rfl rfl rfl (reads_field tfld24_0 _ _) ?_
  refine x_load (xv := .pointer (some ⟨b9, 0, none⟩)) (.slice a0_7 (x6.1.1).length c0_7) rfl rfl rfl (reads_box tcell22 hb9 nn 0 _ rfl) ?_
  refine x_len (vs := [.slice a0_7 (x6.1.1).length c0_7]) (.int .i64 ((x6.1.1).length : Int)) rfl rfl rfl (reads_len tsl22 _ _ _ _ _) ?_
  refine x_pure 1 [(34, .bool (((x12.1.2).length : Int) != ((x6.1.1).length : Int)))] _ _ _ (by kernel_rfl) ?_
  refine x_end rfl (k_then ?_)
  refine c_cond (((x12.1.2).length : Int) != ((x6.1.1).length : Int)) rfl (fun hb => ?_) (fun hb => ?_)
  · replace h := ite_t hb h
    refine c_seq (c_plain ?_)
    refine x_pure 1 [(2, .bool false)] _ _ _ (by kernel_rfl) ?_
    refine x_end rfl (k_then ?_)
    refine c_ret ?_
    refine k_then_ret ?_
    refine r_ret (r_vals [.bool false] ⟨rfl, trivial⟩ ?_)
    have hx := some_inj h
    subst hx
    have hmr : MS w17 [M] := hms.pick [some 3] _ rfl
    have hsu : ∀ x ∈ fl [M], x ∈ fl [[b15], [b9], [b0_3], M] := pick_sub [some 3] _ rfl
    exact ⟨rfl, hev⟩
  replace h := ite_f hb h
  refine c_skip ?_
  refine k_then ?_
  refine c_seq ?_
  refine c_seq (c_plain ?_)
  refine x_fieldAddr (xv := .pointer (some ⟨b15, 0, none⟩)) (.pointer (some ⟨b15, 1, none⟩)) rfl rfl rfl (reads_field tfld29_1 _ _) ?_
  refine x_load (xv := .pointer (some ⟨b15, 1, none⟩)) (.slice a0_13 (x12.1.2).length c0_13) rfl rfl rfl (reads_box tcell27 hb15 nn 1 _ rfl) ?_
  refine x_len (vs := [.slice a0_13 (x12.1.2).length c0_13]) (.int .i64 ((x12.1.2).length : Int)) rfl rfl rfl (reads_len tsl27 _ _ _ _ _) ?_
  refine x_pure 1 [(38, .int .i64 0)] _ _ _ (by kernel_rfl) ?_
  refine x_end rfl (k_then ?_)
  refine c_block ?_
  have hpk : MS w17 [[b9], [b15], M] := hms.pick [some 1, some 0, some 3] _ rfl
  have hsu : ∀ x ∈ fl [[b9], [b15], M], x ∈ fl [[b15], [b9], [b0_3], M] := pick_sub [some 1, some 0, some 3] _ rfl
  replace hf7_1 := hf7_1.sub hsu
  replace hf13_1 := hf13_1.sub hsu
  replace hms := hpk
  replace hfr : FR w.heap.size [[b9], [b15]] := hfr.pick [some 1, some 0] _ rfl
  clear hpk hsu
  obtain ⟨d22, hd22, h22⟩ := bind_some h
  obtain ⟨m22, hd22⟩ := loop_some hd22
  refine c_loop (loop_rule hmx (σ := Nat × Int) (fun s => match s with | (_, t38__s38_l22) => [(3, .pointer (some ⟨b9, 0, none⟩)), (4, .pointer (some ⟨b15, 0, none⟩)), (37, .int .i64 ((x12.1.2).length : Int)), (38, .int .i64 t38__s38_l22)]) (fun s w' => match s with | (m, t38__s38_l22) => loopN (law13_LeastcodeLeast_L22 x6 x12) m t38__s38_l22 = some d22 ∧ Ev [] w w' ∧ MS w' [[b9], [b15], M] ∧ FR w.heap.size [[b9], [b15]] ∧ SlR (eProd (eInt .i64) (eProd (eInt .i64) (eProd (eInt .i64) (eInt .i64)))) w' (fl [[b9], [b15], M]) a0_7 c0_7 x6.1.1 ∧ w'.heap[b9]? = some (.cells #[.slice a0_7 (x6.1.1).length c0_7, .int .i64 x6.1.2] 24 (0, 0)) ∧ SlR (eInt .i64) w' (fl [[b9], [b15], M]) a0_13 c0_13 x12.1.2 ∧ w'.heap[b15]? = some (.cells #[.int .i64 x12.1.1, .slice a0_13 (x12.1.2).length c0_13] 29 (0, 0))) (fun s => s.1) (m22, 0) ⟨rfl, rfl, rfl, rfl, trivial⟩ ⟨hd22, hev, hms, hfr, hf7_1, hb9, hf13_1, hb15⟩ ?_)
  rintro ⟨m22, t38__s38_l22⟩ J wl22 ⟨hn22, hev, hms, hfr, hf7_1, hb9, hf13_1, hb15⟩
  rcases m22 with _ | m22
  · exact (loopN_zero hn22).elim
  obtain ⟨t22, h, hn22⟩ := bind_some hn22
  refine c_seq (c_plain ?_)
  refine x_pure 1 [(39, .bool (decide (t38__s38_l22 < ((x12.1.2).length : Int))))] _ _ _ (by kernel_rfl) ?_
  refine x_end rfl (k_then ?_)
  refine c_norm [(3, .pointer (some ⟨b9, 0, none⟩)), (4, .pointer (some ⟨b15, 0, none⟩)), (37, .int .i64 ((x12.1.2).length : Int)), (38, .int .i64 t38__s38_l22), (39, .bool (decide (t38__s38_l22 < ((x12.1.2).length : Int))))] ⟨rfl, rfl, rfl, rfl, rfl, trivial⟩ (fun J => ?_)
  refine c_seq ?_
  refine c_cond (decide (t38__s38_l22 < ((x12.1.2).length : Int))) rfl (fun hb => ?_) (fun hb => ?_)
  · replace h := ite_t hb h
    refine c_skip ?_
    refine k_then ?_
    refine c_seq ?_
    refine c_block ?_
    refine c_seq (c_plain ?_)
    refine x_pure 2 [(40, .int .i64 t38__s38_l22), (6, .int .i64 t38__s38_l22)] _ _ _ (by kernel_rfl) ?_
    refine x_end rfl (k_then ?_)
    refine c_seq ?_
    refine c_drawn [] [(0, false), (1, false), (2, false), (3, false), (4, false), (5, false), (6, false), (7, false), (8, false), (9, false), (10, false), (11, false), (12, false), (13, false), (14, false), (15, false), (16, false), (17, false), (18, false)] _ (by kernel_rfl) rfl ?_
    have hst := Stp.ext (ls := [[b9], [b15], M]) (Ev.drew wl22)
    replace hb9 := (Ev.drew wl22).box hb9 nn
    replace hf7_1 := hf7_1.step hst
    replace hb15 := (Ev.drew wl22).box hb15 nn
    replace hf13_1 := hf13_1.step hst
    replace hms := hms.ev (Ev.drew wl22)
    replace hev := hev.ext (Ev.drew wl22)
    refine x_fieldAddr (xv := .pointer (some ⟨b15, 0, none⟩)) (.pointer (some ⟨b15, 1, none⟩)) rfl rfl rfl (reads_field tfld29_1 _ _) ?_
    refine x_load (xv := .pointer (some ⟨b15, 1, none⟩)) (.slice a0_13 (x12.1.2).length c0_13) rfl rfl rfl (reads_box tcell27 hb15 nn 1 _ rfl) ?_
    refine x_pure 1 [(44, .int .i64 t38__s38_l22)] _ _ _ (by kernel_rfl) ?_
    obtain ⟨x24, hx24, h⟩ := bind_some h
    obtain ⟨ad24, cs24, hr24, hc24, hR⟩ := reads_index (Mo := []) tsl27 hf13_1 hx24
    obtain rfl := hR
    refine x_indexAddr (xv := .slice a0_13 (x12.1.2).length c0_13) (yv := .int .i64 t38__s38_l22) (.pointer (some ad24)) rfl rfl rfl rfl hr24 ?_
    refine x_load (xv := .pointer (some ad24)) (.int .i64 x24) rfl rfl rfl (reads_cell0 tcell3 hc24 (fun _ h => by cases h)) ?_
    refine x_fieldAddr (xv := .pointer (some ⟨b9, 0, none⟩)) (.pointer (some ⟨b9, 0, none⟩)) rfl rfl rfl (reads_field tfld24_0 _ _) ?_
    refine x_load (xv := .pointer (some ⟨b9, 0, none⟩)) (.slice a0_7 (x6.1.1).length c0_7) rfl rfl rfl (reads_box tcell22 hb9 nn 0 _ rfl) ?_
    refine x_pure 1 [(49, .int .i64 t38__s38_l22)] _ _ _ (by kernel_rfl) ?_
    obtain ⟨x26, hx26, h⟩ := bind_some h
    obtain ⟨ad26, cs26, hr26, hc26, hR⟩ := reads_index (Mo := []) tsl22 hf7_1 hx26
    obtain ⟨_, _, rfl, rfl, ⟨_, _, rfl, rfl, ⟨_, _, rfl, rfl, rfl⟩⟩⟩ := hR
    refine x_indexAddr (xv := .slice a0_7 (x6.1.1).length c0_7) (yv := .int .i64 t38__s38_l22) (.pointer (some ad26)) rfl rfl rfl rfl hr26 ?_
    refine x_fieldAddr (xv := .pointer (some ad26)) (.pointer (some (Addr.add ad26 2))) rfl rfl rfl (reads_field tfld26_2 _ _) ?_
    refine x_load (xv := .pointer (some (Addr.add ad26 2))) (.int .i64 x26.2.2.1) rfl rfl rfl (reads_cell tcell3 hc26 (fun _ h => by cases h) 2 _ rfl) ?_
    refine x_fieldAddr (xv := .pointer (some ⟨b9, 0, none⟩)) (.pointer (some ⟨b9, 1, none⟩)) rfl rfl rfl (reads_field tfld24_1 _ _) ?_
    refine x_load (xv := .pointer (some ⟨b9, 1, none⟩)) (.int .i64 x6.1.2) rfl rfl rfl (reads_box tcell3 hb9 nn 1 _ rfl) ?_
    obtain ⟨x28, hx, h⟩ := bind_some h
    have hcall := r12_Rank_w x24 x26.2.2.1 x6.1.2 _ (wl22).drew hx
    refine x_call 24 #[] #[] [.int .i64 x24, .int .i64 x26.2.2.1, .int .i64 x6.1.2] _ rfl rfl rfl rfl hcall ?_
    rintro v w29 ⟨rfl, he29⟩
    clear hcall hx
    refine ⟨.inr he29, ?_⟩
    have hst := Stp.ext (ls := [[b9], [b15], M]) he29
    replace hb9 := he29.box hb9 nn
    replace hf7_1 := hf7_1.step hst
    replace hb15 := he29.box hb15 nn
    replace hf13_1 := hf13_1.step hst
    replace hc24 := hc24.step hst
    replace hc26 := hc26.step hst
    replace hms := hms.ev he29
    replace hev := hev.ext he29
    refine x_pure 5 [(41, .tuple #[.int .i64 x28.1, .int .i64 x28.2]), (56, .int .i64 x28.1), (57, .int .i64 x28.2), (7, .int .i64 x28.1), (8, .int .i64 x28.2)] _ _ _ (by kernel_rfl) ?_
    refine x_end rfl (k_then ?_)
    refine c_norm [(3, .pointer (some ⟨b9, 0, none⟩)), (4, .pointer (some ⟨b15, 0, none⟩)), (6, .int .i64 t38__s38_l22), (7, .int .i64 x28.1), (8, .int .i64 x28.2), (37, .int .i64 ((x12.1.2).length : Int)), (38, .int .i64 t38__s38_l22)] ⟨rfl, rfl, rfl, rfl, rfl, rfl, rfl, trivial⟩ (fun J => ?_)
    refine c_seq ?_
    refine c_seq (c_plain ?_)
    refine x_pure 2 [(58, .int .i64 x28.2), (59, .bool (x28.2 != 0))] _ _ _ (by kernel_rfl) ?_
    refine x_end rfl (k_then ?_)
    refine c_cond (x28.2 != 0) rfl (fun hb => ?_) (fun hb => ?_)
    · replace h := ite_t hb h
      refine c_seq (c_plain ?_)
      refine x_pure 1 [(2, .bool false)] _ _ _ (by kernel_rfl) ?_
      refine x_end rfl (k_then ?_)
      refine c_ret ?_
      refine k_then_ret ?_
      refine k_block_ret ?_
      refine k_then_ret ?_
      have hx := some_inj h
      subst hx
      have hy := some_inj hn22
      subst hy
      replace h := h22
      refine k_then_ret ?_
      refine k_block_ret ?_
      refine k_then_ret ?_
      refine r_ret (r_vals [.bool false] ⟨rfl, trivial⟩ ?_)
      have hx := some_inj h
      subst hx
      have hmr : MS w29 [M] := hms.pick [some 2] _ rfl
      have hsu : ∀ x ∈ fl [M], x ∈ fl [[b9], [b15], M] := pick_sub [some 2] _ rfl
      exact ⟨rfl, hev⟩
    replace h := ite_f hb h
    refine c_skip ?_
    refine k_then ?_
    refine c_seq ?_
    refine c_seq (c_plain ?_)
    refine x_pure 2 [(60, .int .i64 x28.1), (61, .bool (x28.1 == 0))] _ _ _ (by kernel_rfl) ?_
    refine x_end rfl (k_then ?_)
    refine c_cond (x28.1 == 0) rfl (fun hb => ?_) (fun hb => ?_)
    · replace h := ite_t hb h
      refine c_exit ?_
      refine k_then_exit ?_
      refine k_block_in ?_
      refine k_then ?_
      refine c_plain ?_
      refine x_pure 2 [(106, .int .i64 (IntKind.i64.wrap (t38__s38_l22 + 1))), (38, .int .i64 (IntKind.i64.wrap (t38__s38_l22 + 1)))] _ _ _ (by kernel_rfl) ?_
      refine x_end rfl ?_
      have hx := some_inj h
      subst hx
      exact k_then ⟨(m22, IntKind.i64.wrap (t38__s38_l22 + 1)), ⟨rfl, rfl, rfl, rfl, trivial⟩, ⟨hn22, hev, hms, hfr, hf7_1, hb9, hf13_1, hb15⟩, Nat.lt_succ_self _⟩
    replace h := ite_f hb h
    refine c_skip ?_
    refine k_then ?_
    refine c_seq ?_
    refine c_drawn [] [(0, false), (1, false), (2, false), (3, false), (4, false), (5, false), (6, false), (7, false), (8, false), (9, false), (10, false), (11, false), (12, false), (13, false), (14, false), (15, false)] _ (by kernel_rfl) rfl ?_
    have hst := Stp.ext (ls := [[b9], [b15], M]) (Ev.drew w29)
    replace hb9 := (Ev.drew w29).box hb9 nn
    replace hf7_1 := hf7_1.step hst
    replace hb15 := (Ev.drew w29).box hb15 nn
    replace hf13_1 := hf13_1.step hst
    replace hms := hms.ev (Ev.drew w29)
    replace hev := hev.ext (Ev.drew w29)
    refine x_pure 2 [(63, .int .i64 x28.1), (64, .int .i64 (IntKind.i64.wrap (x28.1 - 1)))] _ _ _ (by kernel_rfl) ?_
    refine x_fieldAddr (xv := .pointer (some ⟨b9, 0, none⟩)) (.pointer (some ⟨b9, 0, none⟩)) rfl rfl rfl (reads_field tfld24_0 _ _) ?_
    refine x_load (xv := .pointer (some ⟨b9, 0, none⟩)) (.slice a0_7 (x6.1.1).length c0_7) rfl rfl rfl (reads_box tcell22 hb9 nn 0 _ rfl) ?_
    refine x_pure 1 [(67, .int .i64 t38__s38_l22)] _ _ _ (by kernel_rfl) ?_
    obtain ⟨x32, hx32, h⟩ := bind_some h
    obtain ⟨ad32, cs32, hr32, hc32, hR⟩ := reads_index (Mo := []) tsl22 hf7_1 hx32
    obtain ⟨_, _, rfl, rfl, ⟨_, _, rfl, rfl, ⟨_, _, rfl, rfl, rfl⟩⟩⟩ := hR
    refine x_indexAddr (xv := .slice a0_7 (x6.1.1).length c0_7) (yv := .int .i64 t38__s38_l22) (.pointer (some ad32)) rfl rfl rfl rfl hr32 ?_
    refine x_fieldAddr (xv := .pointer (some ad32)) (.pointer (some (Addr.add ad32 2))) rfl rfl rfl (reads_field tfld26_2 _ _) ?_
    refine x_load (xv := .pointer (some (Addr.add ad32 2))) (.int .i64 x32.2.2.1) rfl rfl rfl (reads_cell tcell3 hc32 (fun _ h => by cases h) 2 _ rfl) ?_
    refine x_fieldAddr (xv := .pointer (some ⟨b9, 0, none⟩)) (.pointer (some ⟨b9, 1, none⟩)) rfl rfl rfl (reads_field tfld24_1 _ _) ?_
    refine x_load (xv := .pointer (some ⟨b9, 1, none⟩)) (.int .i64 x6.1.2) rfl rfl rfl (reads_box tcell3 hb9 nn 1 _ rfl) ?_
    obtain ⟨x34, hx, h⟩ := bind_some h
    have hcall := r12_Nth_w (IntKind.i64.wrap (x28.1 - 1)) x32.2.2.1 x6.1.2 _ (w29).drew hx
    refine x_call 25 #[] #[] [.int .i64 (IntKind.i64.wrap (x28.1 - 1)), .int .i64 x32.2.2.1, .int .i64 x6.1.2] _ rfl rfl rfl rfl hcall ?_
    rintro v w35 ⟨rfl, he35⟩
    clear hcall hx
    refine ⟨.inr he35, ?_⟩
    have hst := Stp.ext (ls := [[b9], [b15], M]) he35
    replace hb9 := he35.box hb9 nn
    replace hf7_1 := hf7_1.step hst
    replace hb15 := he35.box hb15 nn
    replace hf13_1 := hf13_1.step hst
    replace hc32 := hc32.step hst
    replace hms := hms.ev he35
    replace hev := hev.ext he35
    refine x_pure 5 [(62, .tuple #[.int .i64 x34.1, .int .i64 x34.2]), (74, .int .i64 x34.1), (75, .int .i64 x34.2), (9, .int .i64 x34.1), (10, .int .i64 x34.2)] _ _ _ (by kernel_rfl) ?_
    refine x_end rfl (k_then ?_)
    refine c_norm [(3, .pointer (some ⟨b9, 0, none⟩)), (4, .pointer (some ⟨b15, 0, none⟩)), (6, .int .i64 t38__s38_l22), (9, .int .i64 x34.1), (37, .int .i64 ((x12.1.2).length : Int)), (38, .int .i64 t38__s38_l22)] ⟨rfl, rfl, rfl, rfl, rfl, rfl, trivial⟩ (fun J => ?_)
    refine c_seq (c_plain ?_)
    refine x_pure 1 [(11, .bool true)] _ _ _ (by kernel_rfl) ?_
    refine x_end rfl (k_then ?_)
    refine c_seq ?_
    refine c_seq (c_plain ?_)
    refine x_fieldAddr (xv := .pointer (some ⟨b15, 0, none⟩)) (.pointer (some ⟨b15, 1, none⟩)) rfl rfl rfl (reads_field tfld29_1 _ _) ?_
    refine x_load (xv := .pointer (some ⟨b15, 1, none⟩)) (.slice a0_13 (x12.1.2).length c0_13) rfl rfl rfl (reads_box tcell27 hb15 nn 1 _ rfl) ?_
    refine x_len (vs := [.slice a0_13 (x12.1.2).length c0_13]) (.int .i64 ((x12.1.2).length : Int)) rfl rfl rfl (reads_len tsl27 _ _ _ _ _) ?_
    refine x_pure 1 [(79, .int .i64 0)] _ _ _ (by kernel_rfl) ?_
    refine x_end rfl (k_then ?_)
    refine c_block ?_
    obtain ⟨d36, hd36, h36⟩ := bind_some h
    obtain ⟨m36, hd36⟩ := loop_some hd36
    refine c_loop (loop_rule hmx (σ := Nat × Bool × Int) (fun s => match s with | (_, free_s11_l36, t79__s79_l36) => [(3, .pointer (some ⟨b9, 0, none⟩)), (4, .pointer (some ⟨b15, 0, none⟩)), (6, .int .i64 t38__s38_l22), (9, .int .i64 x34.1), (11, .bool free_s11_l36), (37, .int .i64 ((x12.1.2).length : Int)), (38, .int .i64 t38__s38_l22), (78, .int .i64 ((x12.1.2).length : Int)), (79, .int .i64 t79__s79_l36)]) (fun s w' => match s with | (m, free_s11_l36, t79__s79_l36) => loopN (law13_LeastcodeLeast_L36 x6 x12 t38__s38_l22 x34) m (free_s11_l36, t79__s79_l36) = some d36 ∧ Ev [] w w' ∧ MS w' [[b9], [b15], M] ∧ FR w.heap.size [[b9], [b15]] ∧ SlR (eProd (eInt .i64) (eProd (eInt .i64) (eProd (eInt .i64) (eInt .i64)))) w' (fl [[b9], [b15], M]) a0_7 c0_7 x6.1.1 ∧ w'.heap[b9]? = some (.cells #[.slice a0_7 (x6.1.1).length c0_7, .int .i64 x6.1.2] 24 (0, 0)) ∧ SlR (eInt .i64) w' (fl [[b9], [b15], M]) a0_13 c0_13 x12.1.2 ∧ w'.heap[b15]? = some (.cells #[.int .i64 x12.1.1, .slice a0_13 (x12.1.2).length c0_13] 29 (0, 0))) (fun s => s.1) (m36, true, 0) ⟨rfl, rfl, rfl, rfl, rfl, rfl, rfl, rfl, rfl, trivial⟩ ⟨hd36, hev, hms, hfr, hf7_1, hb9, hf13_1, hb15⟩ ?_)
    rintro ⟨m36, free_s11_l36, t79__s79_l36⟩ J wl36 ⟨hn36, hev, hms, hfr, hf7_1, hb9, hf13_1, hb15⟩
    rcases m36 with _ | m36
    · exact (loopN_zero hn36).elim
    obtain ⟨t36, h, hn36⟩ := bind_some hn36
    refine c_seq (c_plain ?_)
    refine x_pure 1 [(80, .bool (decide (t79__s79_l36 < ((x12.1.2).length : Int))))] _ _ _ (by kernel_rfl) ?_
    refine x_end rfl (k_then ?_)
    refine c_norm [(3, .pointer (some ⟨b9, 0, none⟩)), (4, .pointer (some ⟨b15, 0, none⟩)), (6, .int .i64 t38__s38_l22), (9, .int .i64 x34.1), (11, .bool free_s11_l36), (37, .int .i64 ((x12.1.2).length : Int)), (38, .int .i64 t38__s38_l22), (78, .int .i64 ((x12.1.2).length : Int)), (79, .int .i64 t79__s79_l36), (80, .bool (decide (t79__s79_l36 < ((x12.1.2).length : Int))))] ⟨rfl, rfl, rfl, rfl, rfl, rfl, rfl, rfl, rfl, rfl, trivial⟩ (fun J => ?_)
    refine c_seq ?_
    refine c_cond (decide (t79__s79_l36 < ((x12.1.2).length : Int))) rfl (fun hb => ?_) (fun hb => ?_)
    · replace h := ite_t hb h
      refine c_skip ?_
      refine k_then ?_
      refine c_seq ?_
      refine c_block ?_
      refine c_seq (c_plain ?_)
      refine x_pure 2 [(81, .int .i64 t79__s79_l36), (12, .int .i64 t79__s79_l36)] _ _ _ (by kernel_rfl) ?_
      refine x_end rfl (k_then ?_)
      refine c_drawn [] [(0, false), (1, false), (2, false), (3, false), (4, false), (5, false), (6, false), (7, false), (8, false), (9, false), (10, false), (11, false), (12, false), (13, false), (14, false), (15, false), (18, false), (16, false), (17, false), (19, false), (20, false), (21, false), (22, false)] _ (by kernel_rfl) rfl ?_
      have hst := Stp.ext (ls := [[b9], [b15], M]) (Ev.drew wl36)
      replace hb9 := (Ev.drew wl36).box hb9 nn
      replace hf7_1 := hf7_1.step hst
      replace hb15 := (Ev.drew wl36).box hb15 nn
      replace hf13_1 := hf13_1.step hst
      replace hms := hms.ev (Ev.drew wl36)
      replace hev := hev.ext (Ev.drew wl36)
      refine x_pure 2 [(82, .bool free_s11_l36), (83, .bool free_s11_l36)] _ _ _ (by kernel_rfl) ?_
      refine x_split 83 free_s11_l36 rfl (fun hb => ?_) (fun hb => ?_)
      · replace h := ite_t hb h
        refine x_load (xv := .pointer (some ⟨b9, 0, none⟩)) (.agg #[.slice a0_7 (x6.1.1).length c0_7, .int .i64 x6.1.2]) rfl rfl rfl (reads_boxagg 0 [.slice a0_7 (x6.1.1).length c0_7, .int .i64 x6.1.2] tagg24 hb9 nn rfl) ?_
        refine x_pure 2 [(85, .int .i64 t79__s79_l36), (86, .int .i64 t38__s38_l22)] _ _ _ (by kernel_rfl) ?_
        obtain ⟨x38, hx, h⟩ := bind_some h
        have hpk : MS (wl36).drew ([] ++ [[b9], [b15], M]) := hms.pick [some 0, some 1, some 2] _ rfl
        have hsb0 : ∀ x ∈ fl ([] ++ [[b9], [b15], M]), x ∈ fl [[b9], [b15], M] := pick_sub [some 0, some 1, some 2] _ rfl
        have hsb : ∀ x ∈ fl ([] ++ [(fl [[b9], [b15], M])]), x ∈ fl [[b9], [b15], M] := fun x hx => hsb0 x (fl_unfold x hx)
        have hcall := r11_Kind_w a0_7 c0_7 x6.1.1 x6.1.2 t79__s79_l36 t38__s38_l22 _ (wl36).drew (fl [[b9], [b15], M]) (MS.fold (P := []) hpk) (hf7_1.sub hsb) hx
        refine x_call 26 #[] #[] [.agg #[.slice a0_7 (x6.1.1).length c0_7, .int .i64 x6.1.2], .int .i64 t79__s79_l36, .int .i64 t38__s38_l22] _ rfl rfl rfl rfl hcall ?_
        rintro v w39 ⟨rfl, he39⟩
        clear hcall hx
        refine ⟨.inr he39, ?_⟩
        have hst := Stp.ext (ls := [[b9], [b15], M]) he39
        replace hb9 := he39.box hb9 nn
        replace hf7_1 := hf7_1.step hst
        replace hb15 := he39.box hb15 nn
        replace hf13_1 := hf13_1.step hst
        replace hms := hms.ev he39
        replace hev := hev.ext he39
        clear hpk hsb hsb0
        refine x_pure 2 [(88, .bool (x38 == 0)), (89, .bool (x38 == 0))] _ _ _ (by kernel_rfl) ?_
        refine x_split 89 (x38 == 0) rfl (fun hb => ?_) (fun hb => ?_)
        · replace h := ite_t hb h
          refine x_pure 15 [(90, undef), (91, undef), (92, undef), (93, undef), (94, undef), (95, undef), (96, undef), (97, undef), (100, undef), (98, undef), (99, undef), (101, undef), (102, .bool true), (103, .bool true), (11, .bool true)] _ _ _ (by kernel_rfl) ?_
          refine x_end rfl ?_
          refine k_block ?_
          refine k_then ?_
          refine c_norm [(3, .pointer (some ⟨b9, 0, none⟩)), (4, .pointer (some ⟨b15, 0, none⟩)), (6, .int .i64 t38__s38_l22), (9, .int .i64 x34.1), (11, .bool true), (37, .int .i64 ((x12.1.2).length : Int)), (38, .int .i64 t38__s38_l22), (78, .int .i64 ((x12.1.2).length : Int)), (79, .int .i64 t79__s79_l36)] ⟨rfl, rfl, rfl, rfl, rfl, rfl, rfl, rfl, rfl, trivial⟩ (fun J => ?_)
          refine c_plain ?_
          refine x_pure 2 [(104, .int .i64 (IntKind.i64.wrap (t79__s79_l36 + 1))), (79, .int .i64 (IntKind.i64.wrap (t79__s79_l36 + 1)))] _ _ _ (by kernel_rfl) ?_
          refine x_end rfl ?_
          have hx := some_inj h
          subst hx
          exact k_then ⟨(m36, true, IntKind.i64.wrap (t79__s79_l36 + 1)), ⟨rfl, rfl, rfl, rfl, rfl, rfl, rfl, rfl, rfl, trivial⟩, ⟨hn36, hev, hms, hfr, hf7_1, hb9, hf13_1, hb15⟩, Nat.lt_succ_self _⟩
        replace h := ite_f hb h
        refine x_fieldAddr (xv := .pointer (some ⟨b15, 0, none⟩)) (.pointer (some ⟨b15, 1, none⟩)) rfl rfl rfl (reads_field tfld29_1 _ _) ?_
        refine x_load (xv := .pointer (some ⟨b15, 1, none⟩)) (.slice a0_13 (x12.1.2).length c0_13) rfl rfl rfl (reads_box tcell27 hb15 nn 1 _ rfl) ?_
        refine x_pure 1 [(92, .int .i64 t79__s79_l36)] _ _ _ (by kernel_rfl) ?_
        obtain ⟨x40, hx40, h⟩ := bind_some h
        obtain ⟨ad40, cs40, hr40, hc40, hR⟩ := reads_index (Mo := []) tsl27 hf13_1 hx40
        obtain rfl := hR
        refine x_indexAddr (xv := .slice a0_13 (x12.1.2).length c0_13) (yv := .int .i64 t79__s79_l36) (.pointer (some ad40)) rfl rfl rfl rfl hr40 ?_
        refine x_load (xv := .pointer (some ad40)) (.int .i64 x40) rfl rfl rfl (reads_cell0 tcell3 hc40 (fun _ h => by cases h)) ?_
        refine x_load (xv := .pointer (some ⟨b9, 0, none⟩)) (.agg #[.slice a0_7 (x6.1.1).length c0_7, .int .i64 x6.1.2]) rfl rfl rfl (reads_boxagg 0 [.slice a0_7 (x6.1.1).length c0_7, .int .i64 x6.1.2] tagg24 hb9 nn rfl) ?_
        refine x_pure 3 [(96, .int .i64 t79__s79_l36), (97, .int .i64 t38__s38_l22), (100, .int .i64 x34.1)] _ _ _ (by kernel_rfl) ?_
        obtain ⟨x42, hx, h⟩ := bind_some h
        have hpk : MS w39 ([] ++ [[b9], [b15], M]) := hms.pick [some 0, some 1, some 2] _ rfl
        have hsb0 : ∀ x ∈ fl ([] ++ [[b9], [b15], M]), x ∈ fl [[b9], [b15], M] := pick_sub [some 0, some 1, some 2] _ rfl
        have hsb : ∀ x ∈ fl ([] ++ [(fl [[b9], [b15], M])]), x ∈ fl [[b9], [b15], M] := fun x hx => hsb0 x (fl_unfold x hx)
        have hcall := r11_Strict_w a0_7 c0_7 x6.1.1 x6.1.2 t79__s79_l36 t38__s38_l22 _ w39 (fl [[b9], [b15], M]) (MS.fold (P := []) hpk) (hf7_1.sub hsb) hx
        refine x_call 27 #[] #[] [.agg #[.slice a0_7 (x6.1.1).length c0_7, .int .i64 x6.1.2], .int .i64 t79__s79_l36, .int .i64 t38__s38_l22] _ rfl rfl rfl rfl hcall ?_
        rintro v w43 ⟨rfl, he43⟩
        clear hcall hx
        refine ⟨.inr he43, ?_⟩
        have hst := Stp.ext (ls := [[b9], [b15], M]) he43
        replace hb9 := he43.box hb9 nn
        replace hf7_1 := hf7_1.step hst
        replace hb15 := he43.box hb15 nn
        replace hf13_1 := hf13_1.step hst
        replace hc40 := hc40.step hst
        replace hms := hms.ev he43
        replace hev := hev.ext he43
        clear hpk hsb hsb0
        refine x_pure 5 [(99, .int .i64 (IntKind.i64.wrap (x40 + x42))), (101, .bool (decide ((IntKind.i64.wrap (x40 + x42)) ≤ x34.1))), (102, .bool (decide ((IntKind.i64.wrap (x40 + x42)) ≤ x34.1))), (103, .bool (decide ((IntKind.i64.wrap (x40 + x42)) ≤ x34.1))), (11, .bool (decide ((IntKind.i64.wrap (x40 + x42)) ≤ x34.1)))] _ _ _ (by kernel_rfl) ?_
        refine x_end rfl ?_
        refine k_block ?_
        refine k_then ?_
        refine c_norm [(3, .pointer (some ⟨b9, 0, none⟩)), (4, .pointer (some ⟨b15, 0, none⟩)), (6, .int .i64 t38__s38_l22), (9, .int .i64 x34.1), (11, .bool (decide ((IntKind.i64.wrap (x40 + x42)) ≤ x34.1))), (37, .int .i64 ((x12.1.2).length : Int)), (38, .int .i64 t38__s38_l22), (78, .int .i64 ((x12.1.2).length : Int)), (79, .int .i64 t79__s79_l36)] ⟨rfl, rfl, rfl, rfl, rfl, rfl, rfl, rfl, rfl, trivial⟩ (fun J => ?_)
        refine c_plain ?_
        refine x_pure 2 [(104, .int .i64 (IntKind.i64.wrap (t79__s79_l36 + 1))), (79, .int .i64 (IntKind.i64.wrap (t79__s79_l36 + 1)))] _ _ _ (by kernel_rfl) ?_
        refine x_end rfl ?_
        have hx := some_inj h
        subst hx
        exact k_then ⟨(m36, decide ((IntKind.i64.wrap (x40 + x42)) ≤ x34.1), IntKind.i64.wrap (t79__s79_l36 + 1)), ⟨rfl, rfl, rfl, rfl, rfl, rfl, rfl, rfl, rfl, trivial⟩, ⟨hn36, hev, hms, hfr, hf7_1, hb9, hf13_1, hb15⟩, Nat.lt_succ_self _⟩
      replace h := ite_f hb h
      refine x_pure 21 [(84, undef), (85, undef), (86, undef), (87, undef), (88, undef), (89, undef), (90, undef), (91, undef), (92, undef), (93, undef), (94, undef), (95, undef), (96, undef), (97, undef), (100, undef), (98, undef), (99, undef), (101, undef), (102, undef), (103, .bool false), (11, .bool false)] _ _ _ (by kernel_rfl) ?_
      refine x_end rfl ?_
      refine k_block ?_
      refine k_then ?_
      refine c_norm [(3, .pointer (some ⟨b9, 0, none⟩)), (4, .pointer (some ⟨b15, 0, none⟩)), (6, .int .i64 t38__s38_l22), (9, .int .i64 x34.1), (11, .bool false), (37, .int .i64 ((x12.1.2).length : Int)), (38, .int .i64 t38__s38_l22), (78, .int .i64 ((x12.1.2).length : Int)), (79, .int .i64 t79__s79_l36)] ⟨rfl, rfl, rfl, rfl, rfl, rfl, rfl, rfl, rfl, trivial⟩ (fun J => ?_)
      refine c_plain ?_
      refine x_pure 2 [(104, .int .i64 (IntKind.i64.wrap (t79__s79_l36 + 1))), (79, .int .i64 (IntKind.i64.wrap (t79__s79_l36 + 1)))] _ _ _ (by kernel_rfl) ?_
      refine x_end rfl ?_
      have hx := some_inj h
      subst hx
      exact k_then ⟨(m36, false, IntKind.i64.wrap (t79__s79_l36 + 1)), ⟨rfl, rfl, rfl, rfl, rfl, rfl, rfl, rfl, rfl, trivial⟩, ⟨hn36, hev, hms, hfr, hf7_1, hb9, hf13_1, hb15⟩, Nat.lt_succ_self _⟩
    replace h := ite_f hb h
    refine c_exit ?_
    refine k_then_exit ?_
    have hx := some_inj h
    subst hx
    have hy := some_inj hn36
    subst hy
    replace h := h36
    refine k_then_exit ?_
    refine k_block_in ?_
    refine k_then ?_
    refine c_norm [(3, .pointer (some ⟨b9, 0, none⟩)), (4, .pointer (some ⟨b15, 0, none⟩)), (11, .bool free_s11_l36), (37, .int .i64 ((x12.1.2).length : Int)), (38, .int .i64 t38__s38_l22)] ⟨rfl, rfl, rfl, rfl, rfl, trivial⟩ (fun J => ?_)
    refine c_seq (c_plain ?_)
    refine x_pure 1 [(105, .bool free_s11_l36)] _ _ _ (by kernel_rfl) ?_
    refine x_end rfl (k_then ?_)
    refine c_cond free_s11_l36 rfl (fun hb => ?_) (fun hb => ?_)
    · replace h := ite_t hb h
      refine c_seq (c_plain ?_)
      refine x_pure 1 [(2, .bool false)] _ _ _ (by kernel_rfl) ?_
      refine x_end rfl (k_then ?_)
      refine c_ret ?_
      refine k_block_ret ?_
      refine k_then_ret ?_
      have hx := some_inj h
      subst hx
      have hy := some_inj hn22
      subst hy
      replace h := h22
      refine k_then_ret ?_
      refine k_block_ret ?_
      refine k_then_ret ?_
      refine r_ret (r_vals [.bool false] ⟨rfl, trivial⟩ ?_)
      have hx := some_inj h
      subst hx
      have hmr : MS wl36 [M] := hms.pick [some 2] _ rfl
      have hsu : ∀ x ∈ fl [M], x ∈ fl [[b9], [b15], M] := pick_sub [some 2] _ rfl
      exact ⟨rfl, hev⟩
    replace h := ite_f hb h
    refine c_skip ?_
    refine k_block ?_
    refine k_then ?_
    refine c_plain ?_
    refine x_pure 2 [(106, .int .i64 (IntKind.i64.wrap (t38__s38_l22 + 1))), (38, .int .i64 (IntKind.i64.wrap (t38__s38_l22 + 1)))] _ _ _ (by kernel_rfl) ?_
    refine x_end rfl ?_
    have hx := some_inj h
    subst hx
    exact k_then ⟨(m22, IntKind.i64.wrap (t38__s38_l22 + 1)), ⟨rfl, rfl, rfl, rfl, trivial⟩, ⟨hn22, hev, hms, hfr, hf7_1, hb9, hf13_1, hb15⟩, Nat.lt_succ_self _⟩
  replace h := ite_f hb h
  refine c_exit ?_
  refine k_then_exit ?_
  have hx := some_inj h
  subst hx
  have hy := some_inj hn22
  subst hy
  replace h := h22
  refine k_then_exit ?_
  refine k_block_in ?_
  refine k_then ?_
  refine c_norm [] trivial (fun J => ?_)
  refine c_seq (c_plain ?_)
  obtain ⟨x44, hx, h⟩ := bind_some h
  have hcall := law13_sane_w _ wl22 hx
  refine x_call 13 #[] #[] [] _ rfl rfl rfl rfl hcall ?_
  rintro v w45 ⟨rfl, he45⟩
  clear hcall hx
  refine ⟨.inl rfl, ?_⟩
  have hst := Stp.ext (ls := [[b9], [b15], M]) he45
  replace hb9 := he45.box hb9 nn
  replace hf7_1 := hf7_1.step hst
  replace hb15 := he45.box hb15 nn
  replace hf13_1 := hf13_1.step hst
  replace hms := hms.ev he45
  replace hev := hev.ext he45
  refine x_pure 1 [(2, .bool x44)] _ _ _ (by kernel_rfl) ?_
  refine x_end rfl (k_then ?_)
  refine c_ret ?_
  refine r_ret (r_vals [.bool x44] ⟨rfl, trivial⟩ ?_)
  have hx := some_inj h
  subst hx
  have hmr : MS w45 [M] := hms.pick [some 2] _ rfl
  have hsu : ∀ x ∈ fl [M], x ∈ fl [[b9], [b15], M] := pick_sub [some 2] _ rfl
  exact ⟨rfl, hev⟩
end Go.Proofs.Ytgdaanhiagoonaa
