/- Walks, printed by program: each function returns what the partial function of the same name returns. Conditions: those of each theorem. -/
import Derived.Test.YtgdaanhiagoonaaGT
import Derived.Test.YtgdaanhiagoonaaGgen
import Derived.Test.YtgdaanhiagoonaaGlaw13sane
import Derived.Test.YtgdaanhiagoonaaGlaw13sorts
import Derived.Test.YtgdaanhiagoonaaGleastcode
import Derived.Test.YtgdaanhiagoonaaGr12
set_option linter.unusedVariables false
set_option linter.unusedSimpArgs false
set_option maxRecDepth 4000
namespace Go.Proofs.Ytgdaanhiagoonaa
open Go Go.V Go.Proofs
def law13_LeastcodeSorts_L28 (x6 : ((List (Int × Int × Int × Int)) × Int) × Int) (x12 : (Int × (List Int)) × Int) (s : Int × Int) : Option (Step (Int × Int) (Unit ⊕ Int)) :=
match s with
| (most_s8_l28, t52__s52_l28) =>
(if (decide (t52__s52_l28 < ((x12.1.2).length : Int))) = true then
((idx x12.1.2 t52__s52_l28).bind fun x30 =>
((idx x6.1.1 t52__s52_l28).bind fun x32 =>
((r12_Is x30 x32.2.2.1 x6.1.2).bind fun x34 =>
(if (!x34) = true then
some (.done (.inl ()))
else
some (.next (if x30 > most_s8_l28 then x30 else most_s8_l28, IntKind.i64.wrap (t52__s52_l28 + 1)))))))
else
some (.done (.inr most_s8_l28)))

def law13_LeastcodeSorts (p0 : List Int) : Option Bool :=
((gen_New p0).bind fun x2 =>
((gen_Maker_Job x2.1 x2.2 16).bind fun x6 =>
((leastcode_Least x6.1.1 x6.1.2).bind fun x12 =>
(if (x12.2 != 0) = true then
((leastcode_Witness x6.1.1 x6.1.2).bind fun x19 =>
(if (x12.2 == 15) = true then
(if (x19.2 == 15) = true then
((law13_sane).bind fun x22 =>
some x22)
else
some false)
else
some false))
else
(if (((x12.1.2).length : Int) != ((x6.1.1).length : Int)) = true then
some false
else
((law13_sorts x6.1.1 x6.1.2 x12.1.2).bind fun x25 =>
(if (!x25) = true then
some false
else
((loop (law13_LeastcodeSorts_L28 x6 x12) (0, 0)).bind fun d => match d with
| (.inl _) => some false
| (.inr most_s8_x2801) => ((r12_Long most_s8_x2801).bind fun x36 =>
(if (x12.1.1 == x36) = true then
((law13_sane).bind fun x38 =>
some x38)
else
some false))))))))))

theorem law13_LeastcodeSorts_w (a_p0 : Option Addr) (c_p0 : Nat) (p0 : List Int) (r : Bool) (w : World) (M : List Nat) (hms : MS w [M]) (hs_p0 : SlR (eInt .i64) w (fl [M]) a_p0 c_p0 p0) (h : law13_LeastcodeSorts p0 = some r) : CallVC Try.prog 5 [.slice a_p0 (p0).length c_p0] w fun v w' => v = .bool r ∧ Ev [] w w' := by
  refine calls_vc hmx Try.func5 (by kernel_rfl) rfl (rs := [.tmp 2]) rfl (by kernel_rfl) (args := [.slice a_p0 (p0).length c_p0]) rfl ?_
  have hev : Ev [] w w := Ev.refl _ _
  have hfr : FR w.heap.size [] := FR.nil _
  refine c_seq (c_plain ?_)
  refine x_pure 1 [(2, .bool false)] _ _ _ (by kernel_rfl) ?_
  refine x_end rfl (k_then ?_)
  refine c_seq (c_plain ?_)
  refine x_pure 1 [(11, .slice a_p0 (p0).length c_p0)] _ _ _ (by kernel_rfl) ?_
  obtain ⟨x2, hx, h⟩ := bind_some h
  have hpk : MS w ([] ++ [M]) := hms.pick [some 0] _ rfl
  have hsb0 : ∀ x ∈ fl ([] ++ [M]), x ∈ fl [M] := pick_sub [some 0] _ rfl
  have hsb : ∀ x ∈ fl ([] ++ [(fl [M])]), x ∈ fl [M] := fun x hx => hsb0 x (fl_unfold x hx)
  have hcall := gen_New_w a_p0 c_p0 p0 _ w (fl [M]) (MS.fold (P := []) hpk) (hs_p0.sub hsb) hx
  refine x_call 14 #[] #[] [.slice a_p0 (p0).length c_p0] _ rfl rfl rfl rfl hcall ?_
  rintro v w3 ⟨b0_3, a1_3, c1_3, rfl, he3, hmn3, hfn3, hf3_1, hf3_2⟩
  clear hcall hx
  refine ⟨.inl rfl, ?_⟩
  have hpk2 : MS w ([] ++ [M]) := hms.pick [some 0] _ rfl
  have hsb2 : ∀ x ∈ fl ([] ++ [M]), x ∈ fl [M] := pick_sub [some 0] _ rfl
  have hst0 := Stp.call (LS := [M]) (res := [[b0_3]]) (par := []) (R := [M]) he3 (fun b hb => hsb2 b (fl_left' (P := []) b hb)) hfn3 (NP.init _ _) (fun x hx => hsb2 x (fl_right' (P := []) x hx))
  have hsn : ∀ x ∈ fl [[b0_3], M], x ∈ fl ([[b0_3]] ++ ([] ++ [M])) := pick_sub [some 0, some 1] _ rfl
  have hst := hst0.res hsn
  replace hs_p0 := hs_p0.step hst
  replace hms : MS w3 [[b0_3], M] := (MS.call (P := []) (R := [M]) (res := [[b0_3]]) (par := []) hpk2 he3 hmn3 hfn3 (NP.init _ _)).pick [some 0, some 1] _ rfl
  have hfr2 : FR w.heap.size [[b0_3]] := (FR.cons (fun b hb => Nat.le_trans hev.size (hfn3.at 0 rfl b hb)) (FR.nil _))
  replace hev := hev.ext he3
  replace hfr := hfr2
  clear hfr2
  have hsp : ∀ x ∈ fl [[b0_3], M], x ∈ fl ([[b0_3]] ++ ([] ++ [(fl [M])])) := fun x hx => fl_tot (res := [[b0_3]]) (par := []) (R := [M]) x (hsn x hx)
  replace hf3_2 := hf3_2.sub hsp
  clear hpk hsb hsb0 hpk2 hsb2 hst0 hsn hst
  obtain ⟨x6, hx, h⟩ := bind_some h
  have hpk : MS w3 ([[b0_3]] ++ [M]) := hms.pick [some 0, some 1] _ rfl
  have hsb0 : ∀ x ∈ fl ([[b0_3]] ++ [M]), x ∈ fl [[b0_3], M] := pick_sub [some 0, some 1] _ rfl
  have hsb : ∀ x ∈ fl ([[b0_3]] ++ [(fl [M])]), x ∈ fl [[b0_3], M] := fun x hx => hsb0 x (fl_unfold x hx)
  have hcall := gen_Maker_Job_w b0_3 a1_3 c1_3 x2.1 x2.2 16 _ w3 (fl [M]) (hpk.fold (P := [[b0_3]])) (hf3_2.sub hsb) hf3_1 hx
  refine x_call 15 #[] #[] [.pointer (some ⟨b0_3, 0, none⟩), .int .i64 16] _ rfl rfl rfl rfl hcall ?_
  rintro v w7 ⟨a0_7, c0_7, rfl, he7, hp7_0, hmn7, hfn7, hf7_1⟩
  clear hcall hx
  refine ⟨.inl rfl, ?_⟩
  have hpk2 : MS w3 ([[b0_3]] ++ [M]) := hms.pick [some 0, some 1] _ rfl
  have hsb2 : ∀ x ∈ fl ([[b0_3]] ++ [M]), x ∈ fl [[b0_3], M] := pick_sub [some 0, some 1] _ rfl
  have hst0 := Stp.call (LS := [[b0_3], M]) (res := [blk a0_7]) (par := [[b0_3]]) (R := [M]) he7 (fun b hb => hsb2 b (fl_left' (P := [[b0_3]]) b hb)) hfn7 (NP.init _ _) (fun x hx => hsb2 x (fl_right' (P := [[b0_3]]) x hx))
  have hsn : ∀ x ∈ fl [blk a0_7, [b0_3], M], x ∈ fl ([blk a0_7] ++ ([[b0_3]] ++ [M])) := pick_sub [some 0, some 1, some 2] _ rfl
  have hst := hst0.res hsn
  replace hs_p0 := hs_p0.step hst
  replace hf3_2 := hf3_2.step hst
  replace hms : MS w7 [blk a0_7, [b0_3], M] := (MS.call (P := [[b0_3]]) (R := [M]) (res := [blk a0_7]) (par := [[b0_3]]) hpk2 he7 hmn7 hfn7 (NP.init _ _)).pick [some 0, some 1, some 2] _ rfl
  have hPf : ∀ b ∈ fl [[b0_3]], w.heap.size ≤ b := FR.mem (ls := [[b0_3]]) (hfr.pick [some 0] _ rfl)
  have hfr2 : FR w.heap.size [blk a0_7, [b0_3]] := (FR.cons (fun b hb => Nat.le_trans hev.size (hfn7.at 0 rfl b hb)) (FR.cons (hfr.at 0 rfl) (FR.nil _)))
  replace hev := hev.then he7 (fun b hb => .inr (hPf b hb))
  replace hfr := hfr2
  clear hfr2
  replace hf3_1 := hp7_0
  replace hf7_1 := OwnS.plain (M' := fl [blk a0_7, [b0_3], M]) (plain_prod (plain_int _) (plain_prod (plain_int _) (plain_prod (plain_int _) (plain_int _)))) hf7_1
  clear hpk hsb hsb0 hpk2 hsb2 hst0 hsn hst
  have hpk : MS w7 [[b0_3], M] := hms.pick [some 1, some 2] _ rfl
  have hsu : ∀ x ∈ fl [[b0_3], M], x ∈ fl [blk a0_7, [b0_3], M] := pick_sub [some 1, some 2] _ rfl
  replace hs_p0 := hs_p0.sub hsu
  replace hf3_2 := hf3_2.sub hsu
  replace hf7_1 := hf7_1.ro hsu (pick_out hms 0 rfl [some 1, some 2] [[b0_3], M] rfl rfl)
  replace hms := hpk
  replace hfr : FR w.heap.size [[b0_3]] := hfr.pick [some 1] _ rfl
  clear hpk hsu
  refine x_alloc (z := .agg #[.slice none 0 0, .int .i64 0]) rfl rfl (by kernel_rfl) (fun b9 w9 hq9 hb9 he9 hz9 => ?_)
  replace hb9 : w9.heap[b9]? = some (.cells #[.slice none 0 0, .int .i64 0] 24 (0, 0)) := hb9
  refine ⟨.inl rfl, ?_⟩
  have hst := Stp.box (ls := [[b0_3], M]) he9 hq9
  replace hs_p0 := hs_p0.step hst
  replace hf3_1 := he9.box hf3_1 nn
  replace hf3_2 := hf3_2.step hst
  replace hf7_1 := hf7_1.step hst
  replace hms := hms.box he9 hq9 hb9
  replace hfr := hfr.box hev.size hq9
  replace hev := hev.ext he9
  obtain ⟨w11, hr11, hb11, he11⟩ := store_boxagg 0 [.slice a0_7 (x6.1.1).length c0_7, .int .i64 x6.1.2] #[.slice a0_7 (x6.1.1).length c0_7, .int .i64 x6.1.2] tagg24 hb9 rfl rfl rfl
  refine x_store w11 (xv := .pointer (some ⟨b9, 0, none⟩)) (yv := .agg #[.slice a0_7 (x6.1.1).length c0_7, .int .i64 x6.1.2]) rfl rfl rfl rfl hr11 ?_
  refine ⟨.inl rfl, ?_⟩
  have hst := Stp.ev' (ls := [[b9], [b0_3], M]) he11 (mem_flat 0 rfl)
  replace hs_p0 := hs_p0.step hst
  replace hf3_1 := he11.box hf3_1 (hms.apart 1 0 rfl rfl rfl _ (List.mem_singleton.2 rfl))
  replace hf3_2 := hf3_2.step hst
  replace hf7_1 := hf7_1.step hst
  replace hms := hms.ev he11
  replace hev := hev.then he11 (fun b hb => .inr (hfr.at 0 rfl b hb))
  replace hb9 := hb11
  refine x_end rfl (k_then ?_)
  refine c_seq (c_plain ?_)
  refine x_load (xv := .pointer (some ⟨b9, 0, none⟩)) (.agg #[.slice a0_7 (x6.1.1).length c0_7, .int .i64 x6.1.2]) rfl rfl rfl (reads_boxagg 0 [.slice a0_7 (x6.1.1).length c0_7, .int .i64 x6.1.2] tagg24 hb9 nn rfl) ?_
  obtain ⟨x12, hx, h⟩ := bind_some h
  have hpk : MS w11 ([] ++ [[b9], [b0_3], M]) := hms.pick [some 0, some 1, some 2] _ rfl
  have hsb0 : ∀ x ∈ fl ([] ++ [[b9], [b0_3], M]), x ∈ fl [[b9], [b0_3], M] := pick_sub [some 0, some 1, some 2] _ rfl
  have hsb : ∀ x ∈ fl ([] ++ [(fl [[b9], [b0_3], M])]), x ∈ fl [[b9], [b0_3], M] := fun x hx => hsb0 x (fl_unfold x hx)
  have hcall := leastcode_Least_w a0_7 c0_7 x6.1.1 x6.1.2 _ w11 (fl [[b9], [b0_3], M]) (MS.fold (P := []) hpk) (hf7_1.sub hsb) hx
  refine x_call 12 #[] #[] [.agg #[.slice a0_7 (x6.1.1).length c0_7, .int .i64 x6.1.2]] _ rfl rfl rfl rfl hcall ?_
  rintro v w13 ⟨a0_13, c0_13, rfl, he13, hmn13, hfn13, hf13_1⟩
  clear hcall hx
  refine ⟨.inl rfl, ?_⟩
  have hpk2 : MS w11 ([] ++ [[b9], [b0_3], M]) := hms.pick [some 0, some 1, some 2] _ rfl
  have hsb2 : ∀ x ∈ fl ([] ++ [[b9], [b0_3], M]), x ∈ fl [[b9], [b0_3], M] := pick_sub [some 0, some 1, some 2] _ rfl
  have hst0 := Stp.call (LS := [[b9], [b0_3], M]) (res := [blk a0_13]) (par := []) (R := [[b9], [b0_3], M]) he13 (fun b hb => hsb2 b (fl_left' (P := []) b hb)) hfn13 (NP.init _ _) (fun x hx => hsb2 x (fl_right' (P := []) x hx))
  have hsn : ∀ x ∈ fl [blk a0_13, [b9], [b0_3], M], x ∈ fl ([blk a0_13] ++ ([] ++ [[b9], [b0_3], M])) := pick_sub [some 0, some 1, some 2, some 3] _ rfl
  have hst := hst0.res hsn
  replace hf3_1 := he13.box hf3_1 ((MS.outs (P := []) hpk2 1 rfl) _ (List.mem_singleton.2 rfl))
  replace hf3_2 := hf3_2.step hst
  replace hf7_1 := hf7_1.step hst
  replace hb9 := he13.box hb9 ((MS.outs (P := []) hpk2 0 rfl) _ (List.mem_singleton.2 rfl))
  replace hms : MS w13 [blk a0_13, [b9], [b0_3], M] := (MS.call (P := []) (R := [[b9], [b0_3], M]) (res := [blk a0_13]) (par := []) hpk2 he13 hmn13 hfn13 (NP.init _ _)).pick [some 0, some 1, some 2, some 3] _ rfl
  have hfr2 : FR w.heap.size [blk a0_13, [b9], [b0_3]] := (FR.cons (fun b hb => Nat.le_trans hev.size (hfn13.at 0 rfl b hb)) (FR.cons (hfr.at 0 rfl) (FR.cons (hfr.at 1 rfl) (FR.nil _))))
  replace hev := hev.ext he13
  replace hfr := hfr2
  clear hfr2
  replace hf13_1 := OwnS.plain (M' := fl [blk a0_13, [b9], [b0_3], M]) (plain_int _) hf13_1
  clear hpk hsb hsb0 hpk2 hsb2 hst0 hsn hst
  have hpk : MS w13 [[b9], [b0_3], M] := hms.pick [some 1, some 2, some 3] _ rfl
  have hsu : ∀ x ∈ fl [[b9], [b0_3], M], x ∈ fl [blk a0_13, [b9], [b0_3], M] := pick_sub [some 1, some 2, some 3] _ rfl
  replace hf3_2 := hf3_2.sub hsu
  replace hf7_1 := hf7_1.sub hsu
  replace hf13_1 := hf13_1.ro hsu (pick_out hms 0 rfl [some 1, some 2, some 3] [[b9], [b0_3], M] rfl rfl)
  replace hms := hpk
  replace hfr : FR w.heap.size [[b9], [b0_3]] := hfr.pick [some 1, some 2] _ rfl
  clear hpk hsu
  refine x_pure 3 [(14, .tuple #[.agg #[.int .i64 x12.1.1, .slice a0_13 (x12.1.2).length c0_13], .int .i64 x12.2]), (17, .agg #[.int .i64 x12.1.1, .slice a0_13 (x12.1.2).length c0_13]), (18, .int .i64 x12.2)] _ _ _ (by kernel_rfl) ?_
  refine x_alloc (z := .agg #[.int .i64 0, .slice none 0 0]) rfl rfl (by kernel_rfl) (fun b15 w15 hq15 hb15 he15 hz15 => ?_)
  replace hb15 : w15.heap[b15]? = some (.cells #[.int .i64 0, .slice none 0 0] 29 (0, 0)) := hb15
  refine ⟨.inl rfl, ?_⟩
  have hst := Stp.box (ls := [[b9], [b0_3], M]) he15 hq15
  replace hf3_1 := he15.box hf3_1 nn
  replace hf3_2 := hf3_2.step hst
  replace hf7_1 := hf7_1.step hst
  replace hb9 := he15.box hb9 nn
  replace hf13_1 := hf13_1.step hst
  replace hms := hms.box he15 hq15 hb15
  replace hfr := hfr.box hev.size hq15
  replace hev := hev.ext he15
  obtain ⟨w17, hr17, hb17, he17⟩ := store_boxagg 0 [.int .i64 x12.1.1, .slice a0_13 (x12.1.2).length c0_13] #[.int .i64 x12.1.1, .slice a0_13 (x12.1.2).length c0_13] tagg29 hb15 rfl rfl rfl
  refine x_store w17 (xv := .pointer (some ⟨b15, 0, none⟩)) (yv := .agg #[.int .i64 x12.1.1, .slice a0_13 (x12.1.2).length c0_13]) rfl rfl rfl rfl hr17 ?_
  refine ⟨.inl rfl, ?_⟩
  have hst := Stp.ev' (ls := [[b15], [b9], [b0_3], M]) he17 (mem_flat 0 rfl)
  replace hf3_1 := he17.box hf3_1 (hms.apart 2 0 rfl rfl rfl _ (List.mem_singleton.2 rfl))
  replace hf3_2 := hf3_2.step hst
  replace hf7_1 := hf7_1.step hst
  replace hb9 := he17.box hb9 (hms.apart 1 0 rfl rfl rfl _ (List.mem_singleton.2 rfl))
  replace hf13_1 := hf13_1.step hst
  replace hms := hms.ev he17
  replace hev := hev.then he17 (fun b hb => .inr (hfr.at 0 rfl b hb))
  replace hb15 := hb17
  refine x_pure 1 [(5, .int .i64 x12.2)] _ _ _ (by kernel_rfl) ?_
  refine x_end rfl (k_then ?_)
  refine c_seq ?_
  refine c_seq (c_plain ?_)
  refine x_pure 2 [(19, .int .i64 x12.2), (20, .bool (x12.2 != 0))] _ _ _ (by kernel_rfl) ?_
  refine x_end rfl (k_then ?_)
  refine c_norm [(3, .pointer (some ⟨b9, 0, none⟩)), (4, .pointer (some ⟨b15, 0, none⟩)), (5, .int .i64 x12.2), (20, .bool (x12.2 != 0))] ⟨rfl, rfl, rfl, rfl, trivial⟩ (fun J => ?_)
  refine c_cond (x12.2 != 0) rfl (fun hb => ?_) (fun hb => ?_)
  · replace h := ite_t hb h
    refine c_seq (c_plain ?_)
    refine x_load (xv := .pointer (some ⟨b9, 0, none⟩)) (.agg #[.slice a0_7 (x6.1.1).length c0_7, .int .i64 x6.1.2]) rfl rfl rfl (reads_boxagg 0 [.slice a0_7 (x6.1.1).length c0_7, .int .i64 x6.1.2] tagg24 hb9 nn rfl) ?_
    obtain ⟨x19, hx, h⟩ := bind_some h
    have hpk : MS w17 ([] ++ [[b15], [b9], [b0_3], M]) := hms.pick [some 0, some 1, some 2, some 3] _ rfl
    have hsb0 : ∀ x ∈ fl ([] ++ [[b15], [b9], [b0_3], M]), x ∈ fl [[b15], [b9], [b0_3], M] := pick_sub [some 0, some 1, some 2, some 3] _ rfl
    have hsb : ∀ x ∈ fl ([] ++ [(fl [[b15], [b9], [b0_3], M])]), x ∈ fl [[b15], [b9], [b0_3], M] := fun x hx => hsb0 x (fl_unfold x hx)
    have hcall := leastcode_Witness_w a0_7 c0_7 x6.1.1 x6.1.2 _ w17 (fl [[b15], [b9], [b0_3], M]) (MS.fold (P := []) hpk) (hf7_1.sub hsb) hx
    refine x_call 20 #[] #[] [.agg #[.slice a0_7 (x6.1.1).length c0_7, .int .i64 x6.1.2]] _ rfl rfl rfl rfl hcall ?_
    rintro v w20 ⟨a0_20, c0_20, rfl, he20, hmn20, hfn20, hf20_1⟩
    clear hcall hx
    refine ⟨.inl rfl, ?_⟩
    have hpk2 : MS w17 ([] ++ [[b15], [b9], [b0_3], M]) := hms.pick [some 0, some 1, some 2, some 3] _ rfl
    have hsb2 : ∀ x ∈ fl ([] ++ [[b15], [b9], [b0_3], M]), x ∈ fl [[b15], [b9], [b0_3], M] := pick_sub [some 0, some 1, some 2, some 3] _ rfl
    have hst0 := Stp.call (LS := [[b15], [b9], [b0_3], M]) (res := [blk a0_20]) (par := []) (R := [[b15], [b9], [b0_3], M]) he20 (fun b hb => hsb2 b (fl_left' (P := []) b hb)) hfn20 (NP.init _ _) (fun x hx => hsb2 x (fl_right' (P := []) x hx))
    have hsn : ∀ x ∈ fl [blk a0_20, [b15], [b9], [b0_3], M], x ∈ fl ([blk a0_20] ++ ([] ++ [[b15], [b9], [b0_3], M])) := pick_sub [some 0, some 1, some 2, some 3, some 4] _ rfl
    have hst := hst0.res hsn
    replace hf3_1 := he20.box hf3_1 ((MS.outs (P := []) hpk2 2 rfl) _ (List.mem_singleton.2 rfl))
    replace hf3_2 := hf3_2.step hst
    replace hf7_1 := hf7_1.step hst
    replace hb9 := he20.box hb9 ((MS.outs (P := []) hpk2 1 rfl) _ (List.mem_singleton.2 rfl))
    replace hf13_1 := hf13_1.step hst
    replace hb15 := he20.box hb15 ((MS.outs (P := []) hpk2 0 rfl) _ (List.mem_singleton.2 rfl))
    replace hms : MS w20 [blk a0_20, [b15], [b9], [b0_3], M] := (MS.call (P := []) (R := [[b15], [b9], [b0_3], M]) (res := [blk a0_20]) (par := []) hpk2 he20 hmn20 hfn20 (NP.init _ _)).pick [some 0, some 1, some 2, some 3, some 4] _ rfl
    have hfr2 : FR w.heap.size [blk a0_20, [b15], [b9], [b0_3]] := (FR.cons (fun b hb => Nat.le_trans hev.size (hfn20.at 0 rfl b hb)) (FR.cons (hfr.at 0 rfl) (FR.cons (hfr.at 1 rfl) (FR.cons (hfr.at 2 rfl) (FR.nil _)))))
    replace hev := hev.ext he20
    replace hfr := hfr2
    clear hfr2
    replace hf20_1 := OwnS.plain (M' := fl [blk a0_20, [b15], [b9], [b0_3], M]) (plain_int _) hf20_1
    clear hpk hsb hsb0 hpk2 hsb2 hst0 hsn hst
    have hpk : MS w20 [[b15], [b9], [b0_3], M] := hms.pick [some 1, some 2, some 3, some 4] _ rfl
    have hsu : ∀ x ∈ fl [[b15], [b9], [b0_3], M], x ∈ fl [blk a0_20, [b15], [b9], [b0_3], M] := pick_sub [some 1, some 2, some 3, some 4] _ rfl
    replace hf3_2 := hf3_2.sub hsu
    replace hf7_1 := hf7_1.sub hsu
    replace hf13_1 := hf13_1.sub hsu
    replace hf20_1 := hf20_1.ro hsu (pick_out hms 0 rfl [some 1, some 2, some 3, some 4] [[b15], [b9], [b0_3], M] rfl rfl)
    replace hms := hpk
    replace hfr : FR w.heap.size [[b15], [b9], [b0_3]] := hfr.pick [some 1, some 2, some 3] _ rfl
    clear hpk hsu
    refine x_pure 5 [(21, .tuple #[.slice a0_20 (x19.1).length c0_20, .int .i64 x19.2]), (24, .slice a0_20 (x19.1).length c0_20), (25, .int .i64 x19.2), (6, .slice a0_20 (x19.1).length c0_20), (7, .int .i64 x19.2)] _ _ _ (by kernel_rfl) ?_
    refine x_end rfl (k_then ?_)
    refine c_seq (c_plain ?_)
    refine x_pure 3 [(26, .int .i64 x12.2), (27, .bool (x12.2 == 15)), (28, .bool (x12.2 == 15))] _ _ _ (by kernel_rfl) ?_
    refine x_split 28 (x12.2 == 15) rfl (fun hb => ?_) (fun hb => ?_)
    · replace h := ite_t hb h
      refine x_pure 4 [(29, .int .i64 x19.2), (30, .bool (x19.2 == 15)), (31, .bool (x19.2 == 15)), (32, .bool (x19.2 == 15))] _ _ _ (by kernel_rfl) ?_
      refine x_split 32 (x19.2 == 15) rfl (fun hb => ?_) (fun hb => ?_)
      · replace h := ite_t hb h
        obtain ⟨x22, hx, h⟩ := bind_some h
        have hcall := law13_sane_w _ w20 hx
        refine x_call 13 #[] #[] [] _ rfl rfl rfl rfl hcall ?_
        rintro v w23 ⟨rfl, he23⟩
        clear hcall hx
        refine ⟨.inl rfl, ?_⟩
        have hst := Stp.ext (ls := [[b15], [b9], [b0_3], M]) he23
        replace hf3_1 := he23.box hf3_1 nn
        replace hf3_2 := hf3_2.step hst
        replace hf7_1 := hf7_1.step hst
        replace hb9 := he23.box hb9 nn
        replace hf13_1 := hf13_1.step hst
        replace hb15 := he23.box hb15 nn
        replace hms := hms.ev he23
        replace hev := hev.ext he23
        refine x_pure 2 [(34, .bool x22), (2, .bool x22)] _ _ _ (by kernel_rfl) ?_
        refine x_end rfl (k_then ?_)
        refine c_norm [(2, .bool x22)] ⟨rfl, trivial⟩ (fun J => ?_)
        refine c_ret ?_
        refine k_then_ret ?_
        refine r_ret (r_vals [.bool x22] ⟨rfl, trivial⟩ ?_)
        have hx := some_inj h
        subst hx
        have hmr : MS w23 [M] := hms.pick [some 3] _ rfl
        have hsu : ∀ x ∈ fl [M], x ∈ fl [[b15], [b9], [b0_3], M] := pick_sub [some 3] _ rfl
        exact ⟨rfl, hev⟩
      replace h := ite_f hb h
      refine x_pure 3 [(33, undef), (34, .bool false), (2, .bool false)] _ _ _ (by kernel_rfl) ?_
      refine x_end rfl (k_then ?_)
      refine c_norm [(2, .bool false)] ⟨rfl, trivial⟩ (fun J => ?_)
      refine c_ret ?_
      refine k_then_ret ?_
      refine r_ret (r_vals [.bool false] ⟨rfl, trivial⟩ ?_)
      have hx := some_inj h
      subst hx
      have hmr : MS w20 [M] := hms.pick [some 3] _ rfl
      have hsu : ∀ x ∈ fl [M], x ∈ fl [[b15], [b9], [b0_3], M] := pick_sub [some 3] _ rfl
      exact ⟨rfl, hev⟩
    replace h := ite_f hb h
    refine x_pure 7 [(29, undef), (30, undef), (31, .bool false), (32, .bool false), (33, undef), (34, .bool false), (2, .bool false)] _ _ _ (by kernel_rfl) ?_
    refine x_end rfl (k_then ?_)
    refine c_norm [(2, .bool false)] ⟨rfl, trivial⟩ (fun J => ?_)
    refine c_ret ?_
    refine k_then_ret ?_
    refine r_ret (r_vals [.bool false] ⟨rfl, trivial⟩ ?_)
    have hx := some_inj h
    subst hx
    have hmr : MS w20 [M] := hms.pick [some 3] _ rfl
    have hsu : ∀ x ∈ fl [M], x ∈ fl [[b15], [b9], [b0_3], M] := pick_sub [some 3] _ rfl
    exact ⟨rfl, hev⟩
  replace h := ite_f hb h
  refine c_skip ?_
  refine k_then ?_
  refine c_seq ?_
  refine c_seq (c_plain ?_)
  refine x_fieldAddr (xv := .pointer (some ⟨b15, 0, none⟩)) (.pointer (some ⟨b15, 1, none⟩)) rfl rfl rfl (reads_field tfld29_1 _ _) ?_
  refine x_load (xv := .pointer (some ⟨b15, 1, none⟩)) (.slice a0_13 (x12.1.2).length c0_13) rfl rfl rfl (reads_box tcell27 hb15 nn 1 _ rfl) ?_
  refine x_len (vs := [.slice a0_13 (x12.1.2).length c0_13]) (.int .i64 ((x12.1.2).length : Int)) rfl rfl rfl (reads_len tsl27 _ _ _ _ _) ?_
  refine x_fieldAddr (xv := .pointer (some ⟨b9, 0, none⟩)) (.pointer (some ⟨b9, 0, none⟩)) rfl rfl rfl (reads_field tfld24_0 _ _) ?_
  refine x_load (xv := .pointer (some ⟨b9, 0, none⟩)) (.slice a0_7 (x6.1.1).length c0_7) rfl rfl rfl (reads_box tcell22 hb9 nn 0 _ rfl) ?_
  refine x_len (vs := [.slice a0_7 (x6.1.1).length c0_7]) (.int .i64 ((x6.1.1).length : Int)) rfl rfl rfl (reads_len tsl22 _ _ _ _ _) ?_
  refine x_pure 2 [(41, .bool (((x12.1.2).length : Int) != ((x6.1.1).length : Int))), (42, .bool (((x12.1.2).length : Int) != ((x6.1.1).length : Int)))] _ _ _ (by kernel_rfl) ?_
  refine x_split 42 (((x12.1.2).length : Int) != ((x6.1.1).length : Int)) rfl (fun hb => ?_) (fun hb => ?_)
  · replace h := ite_t hb h
    refine x_pure 6 [(43, undef), (44, undef), (45, undef), (46, undef), (47, undef), (48, .bool true)] _ _ _ (by kernel_rfl) ?_
    refine x_end rfl (k_then ?_)
    refine c_norm [(3, .pointer (some ⟨b9, 0, none⟩)), (4, .pointer (some ⟨b15, 0, none⟩)), (48, .bool true)] ⟨rfl, rfl, rfl, trivial⟩ (fun J => ?_)
    refine c_true rfl ?_
    refine c_seq (c_plain ?_)
    refine x_pure 1 [(2, .bool false)] _ _ _ (by kernel_rfl) ?_
    refine x_end rfl (k_then ?_)
    refine c_ret ?_
    refine k_then_ret ?_
    refine r_ret (r_vals [.bool false] ⟨rfl, trivial⟩ ?_)
    have hx := some_inj h
    subst hx
    have hmr : MS w17 [M] := hms.pick [some 3] _ rfl
    have hsu : ∀ x ∈ fl [M], x ∈ fl [[b15], [b9], [b0_3], M] := pick_sub [some 3] _ rfl
    exact ⟨rfl, hev⟩
  replace h := ite_f hb h
  refine x_load (xv := .pointer (some ⟨b9, 0, none⟩)) (.agg #[.slice a0_7 (x6.1.1).length c0_7, .int .i64 x6.1.2]) rfl rfl rfl (reads_boxagg 0 [.slice a0_7 (x6.1.1).length c0_7, .int .i64 x6.1.2] tagg24 hb9 nn rfl) ?_
  refine x_fieldAddr (xv := .pointer (some ⟨b15, 0, none⟩)) (.pointer (some ⟨b15, 1, none⟩)) rfl rfl rfl (reads_field tfld29_1 _ _) ?_
  refine x_load (xv := .pointer (some ⟨b15, 1, none⟩)) (.slice a0_13 (x12.1.2).length c0_13) rfl rfl rfl (reads_box tcell27 hb15 nn 1 _ rfl) ?_
  obtain ⟨x25, hx, h⟩ := bind_some h
  have hpk : MS w17 ([] ++ [[b15], [b9], [b0_3], M]) := hms.pick [some 0, some 1, some 2, some 3] _ rfl
  have hsb0 : ∀ x ∈ fl ([] ++ [[b15], [b9], [b0_3], M]), x ∈ fl [[b15], [b9], [b0_3], M] := pick_sub [some 0, some 1, some 2, some 3] _ rfl
  have hsb : ∀ x ∈ fl ([] ++ [(fl [[b15], [b9], [b0_3], M])]), x ∈ fl [[b15], [b9], [b0_3], M] := fun x hx => hsb0 x (fl_unfold x hx)
  have hcall := law13_sorts_w a0_7 c0_7 x6.1.1 x6.1.2 a0_13 c0_13 x12.1.2 _ w17 (fl [[b15], [b9], [b0_3], M]) (MS.fold (P := []) hpk) (hf7_1.sub hsb) (hf13_1.sub hsb) hx
  refine x_call 21 #[] #[] [.agg #[.slice a0_7 (x6.1.1).length c0_7, .int .i64 x6.1.2], .slice a0_13 (x12.1.2).length c0_13] _ rfl rfl rfl rfl hcall ?_
  rintro v w26 ⟨rfl, he26⟩
  clear hcall hx
  refine ⟨.inl rfl, ?_⟩
  have hst := Stp.ext (ls := [[b15], [b9], [b0_3], M]) he26
  replace hf3_1 := he26.box hf3_1 nn
  replace hf3_2 := hf3_2.step hst
  replace hf7_1 := hf7_1.step hst
  replace hb9 := he26.box hb9 nn
  replace hf13_1 := hf13_1.step hst
  replace hb15 := he26.box hb15 nn
  replace hms := hms.ev he26
  replace hev := hev.ext he26
  clear hpk hsb hsb0
  refine x_pure 2 [(47, .bool (!x25)), (48, .bool (!x25))] _ _ _ (by kernel_rfl) ?_
  refine x_end rfl (k_then ?_)
  refine c_norm [(3, .pointer (some ⟨b9, 0, none⟩)), (4, .pointer (some ⟨b15, 0, none⟩)), (48, .bool (!x25))] ⟨rfl, rfl, rfl, trivial⟩ (fun J => ?_)
  refine c_cond (!x25) rfl (fun hb => ?_) (fun hb => ?_)
  · replace h := ite_t hb h
    refine c_seq (c_plain ?_)
    refine x_pure 1 [(2, .bool false)] _ _ _ (by kernel_rfl) ?_
    refine x_end rfl (k_then ?_)
    refine c_ret ?_
    refine k_then_ret ?_
    refine r_ret (r_vals [.bool false] ⟨rfl, trivial⟩ ?_)
    have hx := some_inj h
    subst hx
    have hmr : MS w26 [M] := hms.pick [some 3] _ rfl
    have hsu : ∀ x ∈ fl [M], x ∈ fl [[b15], [b9], [b0_3], M] := pick_sub [some 3] _ rfl
    exact ⟨rfl, hev⟩
  replace h := ite_f hb h
  refine c_skip ?_
  refine k_then ?_
  refine c_seq (c_plain ?_)
  refine x_pure 1 [(8, .int .i64 0)] _ _ _ (by kernel_rfl) ?_
  refine x_end rfl (k_then ?_)
  refine c_seq ?_
  refine c_seq (c_plain ?_)
  refine x_fieldAddr (xv := .pointer (some ⟨b15, 0, none⟩)) (.pointer (some ⟨b15, 1, none⟩)) rfl rfl rfl (reads_field tfld29_1 _ _) ?_
  refine x_load (xv := .pointer (some ⟨b15, 1, none⟩)) (.slice a0_13 (x12.1.2).length c0_13) rfl rfl rfl (reads_box tcell27 hb15 nn 1 _ rfl) ?_
  refine x_len (vs := [.slice a0_13 (x12.1.2).length c0_13]) (.int .i64 ((x12.1.2).length : Int)) rfl rfl rfl (reads_len tsl27 _ _ _ _ _) ?_
  refine x_pure 1 [(52, .int .i64 0)] _ _ _ (by kernel_rfl) ?_
  refine x_end rfl (k_then ?_)
  refine c_block ?_
  have hpk : MS w26 [[b9], [b15], M] := hms.pick [some 1, some 0, some 3] _ rfl
  have hsu : ∀ x ∈ fl [[b9], [b15], M], x ∈ fl [[b15], [b9], [b0_3], M] := pick_sub [some 1, some 0, some 3] _ rfl
  replace hf7_1 := hf7_1.sub hsu
  replace hf13_1 := hf13_1.sub hsu
  replace hms := hpk
  replace hfr : FR w.heap.size [[b9], [b15]] := hfr.pick [some 1, some 0] _ rfl
  clear hpk hsu
  obtain ⟨d28, hd28, h28⟩ := bind_some h
  obtain ⟨m28, hd28⟩ := loop_some hd28
  refine c_loop (loop_rule hmx (σ := Nat × Int × Int) (fun s => match s with | (_, most_s8_l28, t52__s52_l28) => [(3, .pointer (some ⟨b9, 0, none⟩)), (4, .pointer (some ⟨b15, 0, none⟩)), (8, .int .i64 most_s8_l28), (50, .slice a0_13 (x12.1.2).length c0_13), (51, .int .i64 ((x12.1.2).length : Int)), (52, .int .i64 t52__s52_l28)]) (fun s w' => match s with | (m, most_s8_l28, t52__s52_l28) => loopN (law13_LeastcodeSorts_L28 x6 x12) m (most_s8_l28, t52__s52_l28) = some d28 ∧ Ev [] w w' ∧ MS w' [[b9], [b15], M] ∧ FR w.heap.size [[b9], [b15]] ∧ SlR (eProd (eInt .i64) (eProd (eInt .i64) (eProd (eInt .i64) (eInt .i64)))) w' (fl [[b9], [b15], M]) a0_7 c0_7 x6.1.1 ∧ w'.heap[b9]? = some (.cells #[.slice a0_7 (x6.1.1).length c0_7, .int .i64 x6.1.2] 24 (0, 0)) ∧ SlR (eInt .i64) w' (fl [[b9], [b15], M]) a0_13 c0_13 x12.1.2 ∧ w'.heap[b15]? = some (.cells #[.int .i64 x12.1.1, .slice a0_13 (x12.1.2).length c0_13] 29 (0, 0))) (fun s => s.1) (m28, 0, 0) ⟨rfl, rfl, rfl, rfl, rfl, rfl, trivial⟩ ⟨hd28, hev, hms, hfr, hf7_1, hb9, hf13_1, hb15⟩ ?_)
  rintro ⟨m28, most_s8_l28, t52__s52_l28⟩ J wl28 ⟨hn28, hev, hms, hfr, hf7_1, hb9, hf13_1, hb15⟩
  rcases m28 with _ | m28
  · exact (loopN_zero hn28).elim
  obtain ⟨t28, h, hn28⟩ := bind_some hn28
  refine c_seq (c_plain ?_)
  refine x_pure 1 [(53, .bool (decide (t52__s52_l28 < ((x12.1.2).length : Int))))] _ _ _ (by kernel_rfl) ?_
  refine x_end rfl (k_then ?_)
  refine c_norm [(3, .pointer (some ⟨b9, 0, none⟩)), (4, .pointer (some ⟨b15, 0, none⟩)), (8, .int .i64 most_s8_l28), (50, .slice a0_13 (x12.1.2).length c0_13), (51, .int .i64 ((x12.1.2).length : Int)), (52, .int .i64 t52__s52_l28), (53, .bool (decide (t52__s52_l28 < ((x12.1.2).length : Int))))] ⟨rfl, rfl, rfl, rfl, rfl, rfl, rfl, trivial⟩ (fun J => ?_)
  refine c_seq ?_
  refine c_cond (decide (t52__s52_l28 < ((x12.1.2).length : Int))) rfl (fun hb => ?_) (fun hb => ?_)
  · replace h := ite_t hb h
    refine c_skip ?_
    refine k_then ?_
    refine c_seq ?_
    refine c_block ?_
    refine c_seq (c_plain ?_)
    refine x_pure 1 [(54, .int .i64 t52__s52_l28)] _ _ _ (by kernel_rfl) ?_
    obtain ⟨x30, hx30, h⟩ := bind_some h
    obtain ⟨ad30, cs30, hr30, hc30, hR⟩ := reads_index (Mo := []) tsl27 hf13_1 hx30
    obtain rfl := hR
    refine x_indexAddr (xv := .slice a0_13 (x12.1.2).length c0_13) (yv := .int .i64 t52__s52_l28) (.pointer (some ad30)) rfl rfl rfl rfl hr30 ?_
    refine x_load (xv := .pointer (some ad30)) (.int .i64 x30) rfl rfl rfl (reads_cell0 tcell3 hc30 (fun _ h => by cases h)) ?_
    refine x_pure 2 [(9, .int .i64 t52__s52_l28), (10, .int .i64 x30)] _ _ _ (by kernel_rfl) ?_
    refine x_end rfl (k_then ?_)
    refine c_seq ?_
    refine c_seq ?_
    refine c_drawn [] [(0, false), (1, false), (2, false), (3, false), (4, false), (5, false), (6, false), (7, false), (8, false), (9, false), (10, false)] _ (by kernel_rfl) rfl ?_
    have hst := Stp.ext (ls := [[b9], [b15], M]) (Ev.drew wl28)
    replace hb9 := (Ev.drew wl28).box hb9 nn
    replace hf7_1 := hf7_1.step hst
    replace hb15 := (Ev.drew wl28).box hb15 nn
    replace hf13_1 := hf13_1.step hst
    replace hms := hms.ev (Ev.drew wl28)
    replace hev := hev.ext (Ev.drew wl28)
    refine x_pure 1 [(57, .int .i64 x30)] _ _ _ (by kernel_rfl) ?_
    refine x_fieldAddr (xv := .pointer (some ⟨b9, 0, none⟩)) (.pointer (some ⟨b9, 0, none⟩)) rfl rfl rfl (reads_field tfld24_0 _ _) ?_
    refine x_load (xv := .pointer (some ⟨b9, 0, none⟩)) (.slice a0_7 (x6.1.1).length c0_7) rfl rfl rfl (reads_box tcell22 hb9 nn 0 _ rfl) ?_
    refine x_pure 1 [(60, .int .i64 t52__s52_l28)] _ _ _ (by kernel_rfl) ?_
    obtain ⟨x32, hx32, h⟩ := bind_some h
    obtain ⟨ad32, cs32, hr32, hc32, hR⟩ := reads_index (Mo := []) tsl22 hf7_1 hx32
    obtain ⟨_, _, rfl, rfl, ⟨_, _, rfl, rfl, ⟨_, _, rfl, rfl, rfl⟩⟩⟩ := hR
    refine x_indexAddr (xv := .slice a0_7 (x6.1.1).length c0_7) (yv := .int .i64 t52__s52_l28) (.pointer (some ad32)) rfl rfl rfl rfl hr32 ?_
    refine x_fieldAddr (xv := .pointer (some ad32)) (.pointer (some (Addr.add ad32 2))) rfl rfl rfl (reads_field tfld26_2 _ _) ?_
    refine x_load (xv := .pointer (some (Addr.add ad32 2))) (.int .i64 x32.2.2.1) rfl rfl rfl (reads_cell tcell3 hc32 (fun _ h => by cases h) 2 _ rfl) ?_
    refine x_fieldAddr (xv := .pointer (some ⟨b9, 0, none⟩)) (.pointer (some ⟨b9, 1, none⟩)) rfl rfl rfl (reads_field tfld24_1 _ _) ?_
    refine x_load (xv := .pointer (some ⟨b9, 1, none⟩)) (.int .i64 x6.1.2) rfl rfl rfl (reads_box tcell3 hb9 nn 1 _ rfl) ?_
    obtain ⟨x34, hx, h⟩ := bind_some h
    have hcall := r12_Is_w x30 x32.2.2.1 x6.1.2 _ (wl28).drew hx
    refine x_call 22 #[] #[] [.int .i64 x30, .int .i64 x32.2.2.1, .int .i64 x6.1.2] _ rfl rfl rfl rfl hcall ?_
    rintro v w35 ⟨rfl, he35⟩
    clear hcall hx
    refine ⟨.inr he35, ?_⟩
    have hst := Stp.ext (ls := [[b9], [b15], M]) he35
    replace hb9 := he35.box hb9 nn
    replace hf7_1 := hf7_1.step hst
    replace hb15 := he35.box hb15 nn
    replace hf13_1 := hf13_1.step hst
    replace hc32 := hc32.step hst
    replace hms := hms.ev he35
    replace hev := hev.ext he35
    refine x_pure 1 [(67, .bool (!x34))] _ _ _ (by kernel_rfl) ?_
    refine x_end rfl (k_then ?_)
    refine c_norm [(3, .pointer (some ⟨b9, 0, none⟩)), (4, .pointer (some ⟨b15, 0, none⟩)), (8, .int .i64 most_s8_l28), (10, .int .i64 x30), (50, .slice a0_13 (x12.1.2).length c0_13), (51, .int .i64 ((x12.1.2).length : Int)), (52, .int .i64 t52__s52_l28), (67, .bool (!x34))] ⟨rfl, rfl, rfl, rfl, rfl, rfl, rfl, rfl, trivial⟩ (fun J => ?_)
    refine c_cond (!x34) rfl (fun hb => ?_) (fun hb => ?_)
    · replace h := ite_t hb h
      refine c_seq (c_plain ?_)
      refine x_pure 1 [(2, .bool false)] _ _ _ (by kernel_rfl) ?_
      refine x_end rfl (k_then ?_)
      refine c_ret ?_
      refine k_then_ret ?_
      refine k_block_ret ?_
      refine k_then_ret ?_
      have hx := some_inj h
      subst hx
      have hy := some_inj hn28
      subst hy
      replace h := h28
      refine k_then_ret ?_
      refine k_block_ret ?_
      refine k_then_ret ?_
      refine r_ret (r_vals [.bool false] ⟨rfl, trivial⟩ ?_)
      have hx := some_inj h
      subst hx
      have hmr : MS w35 [M] := hms.pick [some 2] _ rfl
      have hsu : ∀ x ∈ fl [M], x ∈ fl [[b9], [b15], M] := pick_sub [some 2] _ rfl
      exact ⟨rfl, hev⟩
    replace h := ite_f hb h
    refine c_skip ?_
    refine k_then ?_
    refine c_plain ?_
    refine x_pure 2 [(68, .int .i64 most_s8_l28), (69, .int .i64 x30)] _ _ _ (by kernel_rfl) ?_
    refine x_max (vs := [.int .i64 most_s8_l28, .int .i64 x30]) (.int .i64 (if x30 > most_s8_l28 then x30 else most_s8_l28)) rfl rfl rfl (fun _ _ => rfl) ?_
    refine x_pure 1 [(8, .int .i64 (if x30 > most_s8_l28 then x30 else most_s8_l28))] _ _ _ (by kernel_rfl) ?_
    refine x_end rfl ?_
    refine k_block ?_
    refine k_then ?_
    refine c_plain ?_
    refine x_pure 2 [(71, .int .i64 (IntKind.i64.wrap (t52__s52_l28 + 1))), (52, .int .i64 (IntKind.i64.wrap (t52__s52_l28 + 1)))] _ _ _ (by kernel_rfl) ?_
    refine x_end rfl ?_
    have hx := some_inj h
    subst hx
    exact k_then ⟨(m28, if x30 > most_s8_l28 then x30 else most_s8_l28, IntKind.i64.wrap (t52__s52_l28 + 1)), ⟨rfl, rfl, rfl, rfl, rfl, rfl, trivial⟩, ⟨hn28, hev, hms, hfr, hf7_1, hb9, hf13_1, hb15⟩, Nat.lt_succ_self _⟩
  replace h := ite_f hb h
  refine c_exit ?_
  refine k_then_exit ?_
  have hx := some_inj h
  subst hx
  have hy := some_inj hn28
  subst hy
  replace h := h28
  refine k_then_exit ?_
  refine k_block_in ?_
  refine k_then ?_
  refine c_norm [(4, .pointer (some ⟨b15, 0, none⟩)), (8, .int .i64 most_s8_l28)] ⟨rfl, rfl, trivial⟩ (fun J => ?_)
  refine c_seq ?_
  refine c_drawn [] [(0, false), (1, false), (2, false), (3, false), (4, false), (5, false), (6, false), (7, false), (8, false)] _ (by kernel_rfl) rfl ?_
  have hst := Stp.ext (ls := [[b9], [b15], M]) (Ev.drew wl28)
  replace hb9 := (Ev.drew wl28).box hb9 nn
  replace hf7_1 := hf7_1.step hst
  replace hb15 := (Ev.drew wl28).box hb15 nn
  replace hf13_1 := hf13_1.step hst
  replace hms := hms.ev (Ev.drew wl28)
  replace hev := hev.ext (Ev.drew wl28)
  refine x_fieldAddr (xv := .pointer (some ⟨b15, 0, none⟩)) (.pointer (some ⟨b15, 0, none⟩)) rfl rfl rfl (reads_field tfld29_0 _ _) ?_
  refine x_load (xv := .pointer (some ⟨b15, 0, none⟩)) (.int .i64 x12.1.1) rfl rfl rfl (reads_box tcell3 hb15 nn 0 _ rfl) ?_
  refine x_pure 1 [(74, .int .i64 most_s8_l28)] _ _ _ (by kernel_rfl) ?_
  obtain ⟨x36, hx, h⟩ := bind_some h
  have hcall := r12_Long_w most_s8_l28 _ (wl28).drew hx
  refine x_call 23 #[] #[] [.int .i64 most_s8_l28] _ rfl rfl rfl rfl hcall ?_
  rintro v w37 ⟨rfl, he37⟩
  clear hcall hx
  refine ⟨.inr he37, ?_⟩
  have hst := Stp.ext (ls := [[b9], [b15], M]) he37
  replace hb9 := he37.box hb9 nn
  replace hf7_1 := hf7_1.step hst
  replace hb15 := he37.box hb15 nn
  replace hf13_1 := hf13_1.step hst
  replace hms := hms.ev he37
  replace hev := hev.ext he37
  refine x_pure 2 [(76, .bool (x12.1.1 == x36)), (77, .bool (x12.1.1 == x36))] _ _ _ (by kernel_rfl) ?_
  refine x_split 77 (x12.1.1 == x36) rfl (fun hb => ?_) (fun hb => ?_)
  · replace h := ite_t hb h
    obtain ⟨x38, hx, h⟩ := bind_some h
    have hcall := law13_sane_w _ w37 hx
    refine x_call 13 #[] #[] [] _ rfl rfl rfl rfl hcall ?_
    rintro v w39 ⟨rfl, he39⟩
    clear hcall hx
    refine ⟨.inr he39, ?_⟩
    have hst := Stp.ext (ls := [[b9], [b15], M]) he39
    replace hb9 := he39.box hb9 nn
    replace hf7_1 := hf7_1.step hst
    replace hb15 := he39.box hb15 nn
    replace hf13_1 := hf13_1.step hst
    replace hms := hms.ev he39
    replace hev := hev.ext he39
    refine x_pure 2 [(79, .bool x38), (2, .bool x38)] _ _ _ (by kernel_rfl) ?_
    refine x_end rfl (k_then ?_)
    refine c_ret ?_
    refine r_ret (r_vals [.bool x38] ⟨rfl, trivial⟩ ?_)
    have hx := some_inj h
    subst hx
    have hmr : MS w39 [M] := hms.pick [some 2] _ rfl
    have hsu : ∀ x ∈ fl [M], x ∈ fl [[b9], [b15], M] := pick_sub [some 2] _ rfl
    exact ⟨rfl, hev⟩
  replace h := ite_f hb h
  refine x_pure 3 [(78, undef), (79, .bool false), (2, .bool false)] _ _ _ (by kernel_rfl) ?_
  refine x_end rfl (k_then ?_)
  refine c_ret ?_
  refine r_ret (r_vals [.bool false] ⟨rfl, trivial⟩ ?_)
  have hx := some_inj h
  subst hx
  have hmr : MS w37 [M] := hms.pick [some 2] _ rfl
  have hsu : ∀ x ∈ fl [M], x ∈ fl [[b9], [b15], M] := pick_sub [some 2] _ rfl
  exact ⟨rfl, hev⟩
end Go.Proofs.Ytgdaanhiagoonaa
