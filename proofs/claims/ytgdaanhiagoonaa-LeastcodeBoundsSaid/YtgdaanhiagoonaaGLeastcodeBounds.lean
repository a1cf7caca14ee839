/- Walks, printed by program: each function returns what the partial function of the same name returns. Conditions: those of each theorem. -/
import Derived.Test.YtgdaanhiagoonaaGT
import Derived.Test.YtgdaanhiagoonaaGgen
import Derived.Test.YtgdaanhiagoonaaGlaw13chain
import Derived.Test.YtgdaanhiagoonaaGlaw13sane
import Derived.Test.YtgdaanhiagoonaaGleastcode
set_option linter.unusedVariables false
set_option linter.unusedSimpArgs false
set_option maxRecDepth 4000
namespace Go.Proofs.Ytgdaanhiagoonaa
open Go Go.V Go.Proofs
def law13_LeastcodeBounds_L32 (x2 : ((List Int) × Int)) (x6 : ((List (Int × Int × Int × Int)) × Int) × Int) (most_s7_x22 : Int) (s : Int × Int) : Option (Step (Int × Int) (Unit ⊕ Unit)) :=
match s with
| (e4_l32_1, i_s14_l32) =>
(if (decide (i_s14_l32 < 5)) = true then
((law13_chain x2.1 e4_l32_1 x6.1.1 x6.1.2).bind fun x34 =>
((leastcode_Bound x6.1.1 x6.1.2 x34.1).bind fun x37 =>
(if (x37.2 == 0) = true then
(if (decide (x37.1 > most_s7_x22)) = true then
some (.done (.inl ()))
else
(if (x37.2 == 15) = true then
some (.done (.inl ()))
else
some (.next (x34.2, IntKind.i64.wrap (i_s14_l32 + 1)))))
else
(if (x37.2 == 15) = true then
some (.done (.inl ()))
else
some (.next (x34.2, IntKind.i64.wrap (i_s14_l32 + 1)))))))
else
some (.done (.inr ())))

def law13_LeastcodeBounds_L22 (x12 : (Int × (List Int)) × Int) (s : Int × Int) : Option (Step (Int × Int) Int) :=
match s with
| (most_s7_l22, t37__s37_l22) =>
(if (decide (t37__s37_l22 < ((x12.1.2).length : Int))) = true then
((idx x12.1.2 t37__s37_l22).bind fun x24 =>
some (.next (if x24 > most_s7_l22 then x24 else most_s7_l22, IntKind.i64.wrap (t37__s37_l22 + 1))))
else
some (.done most_s7_l22))

def law13_LeastcodeBounds (p0 : List Int) : Option Bool :=
((gen_New p0).bind fun x2 =>
((gen_Maker_Job x2.1 x2.2 16).bind fun x6 =>
((leastcode_Least x6.1.1 x6.1.2).bind fun x12 =>
(if (x12.2 != 0) = true then
(if (x12.2 == 15) = true then
((law13_sane).bind fun x19 =>
some x19)
else
some false)
else
((loop (law13_LeastcodeBounds_L22 x12) (0, 0)).bind fun d => match d with
| most_s7_x22 => ((leastcode_Witness x6.1.1 x6.1.2).bind fun x26 =>
((leastcode_Bound x6.1.1 x6.1.2 x26.1).bind fun x29 =>
(if (x26.2 != 0) = true then
some false
else
(if (x29.2 != 0) = true then
some false
else
(if (x29.1 != most_s7_x22) = true then
some false
else
((loop (law13_LeastcodeBounds_L32 x2 x6 most_s7_x22) (x6.2, 0)).bind fun d => match d with
| (.inl _) => some false
| (.inr _) => ((law13_sane).bind fun x39 =>
some x39))))))))))))

theorem law13_LeastcodeBounds_w (a_p0 : Option Addr) (c_p0 : Nat) (p0 : List Int) (r : Bool) (w : World) (M : List Nat) (hms : MS w [M]) (hs_p0 : SlR (eInt .i64) w (fl [M]) a_p0 c_p0 p0) (h : law13_LeastcodeBounds p0 = some r) : CallVC Try.prog 8 [.slice a_p0 (p0).length c_p0] w fun v w' => v = .bool r ∧ Ev [] w w' := by
  refine calls_vc hmx Try.func8 (by kernel_rfl) rfl (rs := [.tmp 2]) rfl (by kernel_rfl) (args := [.slice a_p0 (p0).length c_p0]) rfl ?_
  have hev : Ev [] w w := Ev.refl _ _
  have hfr : FR w.heap.size [] := FR.nil _
  refine c_seq (c_plain ?_)
  refine x_pure 1 [(2, .bool false)] _ _ _ (by kernel_rfl) ?_
  refine x_end rfl (k_then ?_)
  refine c_seq (c_plain ?_)
  refine x_pure 1 [(18, .slice a_p0 (p0).length c_p0)] _ _ _ (by kernel_rfl) ?_
  obtain ⟨x2, hx, h⟩ := bind_some h
  have hpk : MS w ([] ++ [M]) := hms.pick [some 0] _ rfl
  have hsb0 : ∀ x ∈ fl ([] ++ [M]), x ∈ fl [M] := pick_sub [some 0] _ rfl
  have hsb : ∀ x ∈ fl ([] ++ [(fl [M])]), x ∈ fl [M] := fun x hx => hsb0 x (fl_unfold x hx)
  have hcall := gen_New_w a_p0 c_p0 p0 _ w (fl [M]) (MS.fold (P := []) hpk) (hs_p0.sub hsb) hx
  refine x_call 14 #[] #[] [.slice a_p0 (p0).length c_p0] _ rfl rfl rfl rfl hcall ?_
  rintro v w3 ⟨b0_3, a1_3, c1_3, rfl, he3, hmn3, hfn3, hf3_1, hf3_2⟩
  clear hcall hx
  refine ⟨.inl rfl, ?_⟩
  have hpk2 : MS w ([] ++ [M]) := hms.pick [some 0] _ rfl
  have hsb2 : ∀ x ∈ fl ([] ++ [M]), x ∈ fl [M] := pick_sub [some 0] _ rfl
  have hst0 := Stp.call (LS := [M]) (res := [[b0_3]]) (par := []) (R := [M]) he3 (fun b hb => hsb2 b (fl_left' (P := []) b hb)) hfn3 (NP.init _ _) (fun x hx => hsb2 x (fl_right' (P := []) x hx))
  have hsn : ∀ x ∈ fl [[b0_3], M], x ∈ fl ([[b0_3]] ++ ([] ++ [M])) := pick_sub [some 0, some 1] _ rfl
  have hst := hst0.res hsn
  replace hs_p0 := hs_p0.step hst
  replace hms : MS w3 [[b0_3], M] := (MS.call (P := []) (R := [M]) (res := [[b0_3]]) (par := []) hpk2 he3 hmn3 hfn3 (NP.init _ _)).pick [some 0, some 1] _ rfl
  have hfr2 : FR w.heap.size [[b0_3]] := (FR.cons (fun b hb => Nat.le_trans hev.size (hfn3.at 0 rfl b hb)) (FR.nil _))
  replace hev := hev.ext he3
  replace hfr := hfr2
  clear hfr2
  have hsp : ∀ x ∈ fl [[b0_3], M], x ∈ fl ([[b0_3]] ++ ([] ++ [(fl [M])])) := fun x hx => fl_tot (res := [[b0_3]]) (par := []) (R := [M]) x (hsn x hx)
  replace hf3_2 := hf3_2.sub hsp
  clear hpk hsb hsb0 hpk2 hsb2 hst0 hsn hst
  refine x_pure 1 [(3, .pointer (some ⟨b0_3, 0, none⟩))] _ _ _ (by kernel_rfl) ?_
  refine x_end rfl (k_then ?_)
  refine c_seq (c_plain ?_)
  refine x_pure 1 [(20, .pointer (some ⟨b0_3, 0, none⟩))] _ _ _ (by kernel_rfl) ?_
  obtain ⟨x6, hx, h⟩ := bind_some h
  have hpk : MS w3 ([[b0_3]] ++ [M]) := hms.pick [some 0, some 1] _ rfl
  have hsb0 : ∀ x ∈ fl ([[b0_3]] ++ [M]), x ∈ fl [[b0_3], M] := pick_sub [some 0, some 1] _ rfl
  have hsb : ∀ x ∈ fl ([[b0_3]] ++ [(fl [M])]), x ∈ fl [[b0_3], M] := fun x hx => hsb0 x (fl_unfold x hx)
  have hcall := gen_Maker_Job_w b0_3 a1_3 c1_3 x2.1 x2.2 16 _ w3 (fl [M]) (hpk.fold (P := [[b0_3]])) (hf3_2.sub hsb) hf3_1 hx
  refine x_call 15 #[] #[] [.pointer (some ⟨b0_3, 0, none⟩), .int .i64 16] _ rfl rfl rfl rfl hcall ?_
  rintro v w7 ⟨a0_7, c0_7, rfl, he7, hp7_0, hmn7, hfn7, hf7_1⟩
  clear hcall hx
  refine ⟨.inl rfl, ?_⟩
  have hpk2 : MS w3 ([[b0_3]] ++ [M]) := hms.pick [some 0, some 1] _ rfl
  have hsb2 : ∀ x ∈ fl ([[b0_3]] ++ [M]), x ∈ fl [[b0_3], M] := pick_sub [some 0, some 1] _ rfl
  have hst0 := Stp.call (LS := [[b0_3], M]) (res := [blk a0_7]) (par := [[b0_3]]) (R := [M]) he7 (fun b hb => hsb2 b (fl_left' (P := [[b0_3]]) b hb)) hfn7 (NP.init _ _) (fun x hx => hsb2 x (fl_right' (P := [[b0_3]]) x hx))
  have hsn : ∀ x ∈ fl [blk a0_7, [b0_3], M], x ∈ fl ([blk a0_7] ++ ([[b0_3]] ++ [M])) := pick_sub [some 0, some 1, some 2] _ rfl
  have hst := hst0.res hsn
  replace hf3_2 := hf3_2.step hst
  replace hms : MS w7 [blk a0_7, [b0_3], M] := (MS.call (P := [[b0_3]]) (R := [M]) (res := [blk a0_7]) (par := [[b0_3]]) hpk2 he7 hmn7 hfn7 (NP.init _ _)).pick [some 0, some 1, some 2] _ rfl
  have hPf : ∀ b ∈ fl [[b0_3]], w.heap.size ≤ b := FR.mem (ls := [[b0_3]]) (hfr.pick [some 0] _ rfl)
  have hfr2 : FR w.heap.size [blk a0_7, [b0_3]] := (FR.cons (fun b hb => Nat.le_trans hev.size (hfn7.at 0 rfl b hb)) (FR.cons (hfr.at 0 rfl) (FR.nil _)))
  replace hev := hev.then he7 (fun b hb => .inr (hPf b hb))
  replace hfr := hfr2
  clear hfr2
  replace hf3_1 := hp7_0
  replace hf7_1 := OwnS.plain (M' := fl [blk a0_7, [b0_3], M]) (plain_prod (plain_int _) (plain_prod (plain_int _) (plain_prod (plain_int _) (plain_int _)))) hf7_1
  clear hpk hsb hsb0 hpk2 hsb2 hst0 hsn hst
  have hpk : MS w7 [[b0_3], M] := hms.pick [some 1, some 2] _ rfl
  have hsu : ∀ x ∈ fl [[b0_3], M], x ∈ fl [blk a0_7, [b0_3], M] := pick_sub [some 1, some 2] _ rfl
  replace hf3_2 := hf3_2.sub hsu
  replace hf7_1 := hf7_1.ro hsu (pick_out hms 0 rfl [some 1, some 2] [[b0_3], M] rfl rfl)
  replace hms := hpk
  replace hfr : FR w.heap.size [[b0_3]] := hfr.pick [some 1] _ rfl
  clear hpk hsu
  refine x_alloc (z := .agg #[.slice none 0 0, .int .i64 0]) rfl rfl (by kernel_rfl) (fun b9 w9 hq9 hb9 he9 hz9 => ?_)
  replace hb9 : w9.heap[b9]? = some (.cells #[.slice none 0 0, .int .i64 0] 24 (0, 0)) := hb9
  refine ⟨.inl rfl, ?_⟩
  have hst := Stp.box (ls := [[b0_3], M]) he9 hq9
  replace hf3_1 := he9.box hf3_1 nn
  replace hf3_2 := hf3_2.step hst
  replace hf7_1 := hf7_1.step hst
  replace hms := hms.box he9 hq9 hb9
  replace hfr := hfr.box hev.size hq9
  replace hev := hev.ext he9
  obtain ⟨w11, hr11, hb11, he11⟩ := store_boxagg 0 [.slice a0_7 (x6.1.1).length c0_7, .int .i64 x6.1.2] #[.slice a0_7 (x6.1.1).length c0_7, .int .i64 x6.1.2] tagg24 hb9 rfl rfl rfl
  refine x_store w11 (xv := .pointer (some ⟨b9, 0, none⟩)) (yv := .agg #[.slice a0_7 (x6.1.1).length c0_7, .int .i64 x6.1.2]) rfl rfl rfl rfl hr11 ?_
  refine ⟨.inl rfl, ?_⟩
  have hst := Stp.ev' (ls := [[b9], [b0_3], M]) he11 (mem_flat 0 rfl)
  replace hf3_1 := he11.box hf3_1 (hms.apart 1 0 rfl rfl rfl _ (List.mem_singleton.2 rfl))
  replace hf3_2 := hf3_2.step hst
  replace hf7_1 := hf7_1.step hst
  replace hms := hms.ev he11
  replace hev := hev.then he11 (fun b hb => .inr (hfr.at 0 rfl b hb))
  replace hb9 := hb11
  refine x_end rfl (k_then ?_)
  refine c_seq (c_plain ?_)
  refine x_load (xv := .pointer (some ⟨b9, 0, none⟩)) (.agg #[.slice a0_7 (x6.1.1).length c0_7, .int .i64 x6.1.2]) rfl rfl rfl (reads_boxagg 0 [.slice a0_7 (x6.1.1).length c0_7, .int .i64 x6.1.2] tagg24 hb9 nn rfl) ?_
  obtain ⟨x12, hx, h⟩ := bind_some h
  have hpk : MS w11 ([] ++ [[b9], [b0_3], M]) := hms.pick [some 0, some 1, some 2] _ rfl
  have hsb0 : ∀ x ∈ fl ([] ++ [[b9], [b0_3], M]), x ∈ fl [[b9], [b0_3], M] := pick_sub [some 0, some 1, some 2] _ rfl
  have hsb : ∀ x ∈ fl ([] ++ [(fl [[b9], [b0_3], M])]), x ∈ fl [[b9], [b0_3], M] := fun x hx => hsb0 x (fl_unfold x hx)
  have hcall := leastcode_Least_w a0_7 c0_7 x6.1.1 x6.1.2 _ w11 (fl [[b9], [b0_3], M]) (MS.fold (P := []) hpk) (hf7_1.sub hsb) hx
  refine x_call 12 #[] #[] [.agg #[.slice a0_7 (x6.1.1).length c0_7, .int .i64 x6.1.2]] _ rfl rfl rfl rfl hcall ?_
  rintro v w13 ⟨a0_13, c0_13, rfl, he13, hmn13, hfn13, hf13_1⟩
  clear hcall hx
  refine ⟨.inl rfl, ?_⟩
  have hpk2 : MS w11 ([] ++ [[b9], [b0_3], M]) := hms.pick [some 0, some 1, some 2] _ rfl
  have hsb2 : ∀ x ∈ fl ([] ++ [[b9], [b0_3], M]), x ∈ fl [[b9], [b0_3], M] := pick_sub [some 0, some 1, some 2] _ rfl
  have hst0 := Stp.call (LS := [[b9], [b0_3], M]) (res := [blk a0_13]) (par := []) (R := [[b9], [b0_3], M]) he13 (fun b hb => hsb2 b (fl_left' (P := []) b hb)) hfn13 (NP.init _ _) (fun x hx => hsb2 x (fl_right' (P := []) x hx))
  have hsn : ∀ x ∈ fl [blk a0_13, [b9], [b0_3], M], x ∈ fl ([blk a0_13] ++ ([] ++ [[b9], [b0_3], M])) := pick_sub [some 0, some 1, some 2, some 3] _ rfl
  have hst := hst0.res hsn
  replace hf3_1 := he13.box hf3_1 ((MS.outs (P := []) hpk2 1 rfl) _ (List.mem_singleton.2 rfl))
  replace hf3_2 := hf3_2.step hst
  replace hf7_1 := hf7_1.step hst
  replace hb9 := he13.box hb9 ((MS.outs (P := []) hpk2 0 rfl) _ (List.mem_singleton.2 rfl))
  replace hms : MS w13 [blk a0_13, [b9], [b0_3], M] := (MS.call (P := []) (R := [[b9], [b0_3], M]) (res := [blk a0_13]) (par := []) hpk2 he13 hmn13 hfn13 (NP.init _ _)).pick [some 0, some 1, some 2, some 3] _ rfl
  have hfr2 : FR w.heap.size [blk a0_13, [b9], [b0_3]] := (FR.cons (fun b hb => Nat.le_trans hev.size (hfn13.at 0 rfl b hb)) (FR.cons (hfr.at 0 rfl) (FR.cons (hfr.at 1 rfl) (FR.nil _))))
  replace hev := hev.ext he13
  replace hfr := hfr2
  clear hfr2
  replace hf13_1 := OwnS.plain (M' := fl [blk a0_13, [b9], [b0_3], M]) (plain_int _) hf13_1
  clear hpk hsb hsb0 hpk2 hsb2 hst0 hsn hst
  have hpk : MS w13 [[b9], [b0_3], M] := hms.pick [some 1, some 2, some 3] _ rfl
  have hsu : ∀ x ∈ fl [[b9], [b0_3], M], x ∈ fl [blk a0_13, [b9], [b0_3], M] := pick_sub [some 1, some 2, some 3] _ rfl
  replace hf3_2 := hf3_2.sub hsu
  replace hf7_1 := hf7_1.sub hsu
  replace hf13_1 := hf13_1.ro hsu (pick_out hms 0 rfl [some 1, some 2, some 3] [[b9], [b0_3], M] rfl rfl)
  replace hms := hpk
  replace hfr : FR w.heap.size [[b9], [b0_3]] := hfr.pick [some 1, some 2] _ rfl
  clear hpk hsu
  refine x_pure 3 [(22, .tuple #[.agg #[.int .i64 x12.1.1, .slice a0_13 (x12.1.2).length c0_13], .int .i64 x12.2]), (25, .agg #[.int .i64 x12.1.1, .slice a0_13 (x12.1.2).length c0_13]), (26, .int .i64 x12.2)] _ _ _ (by kernel_rfl) ?_
  refine x_alloc (z := .agg #[.int .i64 0, .slice none 0 0]) rfl rfl (by kernel_rfl) (fun b15 w15 hq15 hb15 he15 hz15 => ?_)
  replace hb15 : w15.heap[b15]? = some (.cells #[.int .i64 0, .slice none 0 0] 29 (0, 0)) := hb15
  refine ⟨.inl rfl, ?_⟩
  have hst := Stp.box (ls := [[b9], [b0_3], M]) he15 hq15
  replace hf3_1 := he15.box hf3_1 nn
  replace hf3_2 := hf3_2.step hst
  replace hf7_1 := hf7_1.step hst
  replace hb9 := he15.box hb9 nn
  replace hf13_1 := hf13_1.step hst
  replace hms := hms.box he15 hq15 hb15
  replace hfr := hfr.box hev.size hq15
  replace hev := hev.ext he15
  obtain ⟨w17, hr17, hb17, he17⟩ := store_boxagg 0 [.int .i64 x12.1.1, .slice a0_13 (x12.1.2).length c0_13] #[.int .i64 x12.1.1, .slice a0_13 (x12.1.2).length c0_13] tagg29 hb15 rfl rfl rfl
  refine x_store w17 (xv := .pointer (some ⟨b15, 0, none⟩)) (yv := .agg #[.int .i64 x12.1.1, .slice a0_13 (x12.1.2).length c0_13]) rfl rfl rfl rfl hr17 ?_
  refine ⟨.inl rfl, ?_⟩
  have hst := Stp.ev' (ls := [[b15], [b9], [b0_3], M]) he17 (mem_flat 0 rfl)
  replace hf3_1 := he17.box hf3_1 (hms.apart 2 0 rfl rfl rfl _ (List.mem_singleton.2 rfl))
  replace hf3_2 := hf3_2.step hst
  replace hf7_1 := hf7_1.step hst
  replace hb9 := he17.box hb9 (hms.apart 1 0 rfl rfl rfl _ (List.mem_singleton.2 rfl))
  replace hf13_1 := hf13_1.step hst
  replace hms := hms.ev he17
  replace hev := hev.then he17 (fun b hb => .inr (hfr.at 0 rfl b hb))
  replace hb15 := hb17
  refine x_pure 1 [(6, .int .i64 x12.2)] _ _ _ (by kernel_rfl) ?_
  refine x_end rfl (k_then ?_)
  refine c_norm [(3, .pointer (some ⟨b0_3, 0, none⟩)), (4, .pointer (some ⟨b9, 0, none⟩)), (5, .pointer (some ⟨b15, 0, none⟩)), (6, .int .i64 x12.2)] ⟨rfl, rfl, rfl, rfl, trivial⟩ (fun J => ?_)
  refine c_seq ?_
  refine c_seq (c_plain ?_)
  refine x_pure 2 [(27, .int .i64 x12.2), (28, .bool (x12.2 != 0))] _ _ _ (by kernel_rfl) ?_
  refine x_end rfl (k_then ?_)
  refine c_cond (x12.2 != 0) rfl (fun hb => ?_) (fun hb => ?_)
  · replace h := ite_t hb h
    refine c_seq (c_plain ?_)
    refine x_pure 3 [(29, .int .i64 x12.2), (30, .bool (x12.2 == 15)), (31, .bool (x12.2 == 15))] _ _ _ (by kernel_rfl) ?_
    refine x_split 31 (x12.2 == 15) rfl (fun hb => ?_) (fun hb => ?_)
    · replace h := ite_t hb h
      obtain ⟨x19, hx, h⟩ := bind_some h
      have hcall := law13_sane_w _ w17 hx
      refine x_call 13 #[] #[] [] _ rfl rfl rfl rfl hcall ?_
      rintro v w20 ⟨rfl, he20⟩
      clear hcall hx
      refine ⟨.inl rfl, ?_⟩
      have hst := Stp.ext (ls := [[b15], [b9], [b0_3], M]) he20
      replace hf3_1 := he20.box hf3_1 nn
      replace hf3_2 := hf3_2.step hst
      replace hf7_1 := hf7_1.step hst
      replace hb9 := he20.box hb9 nn
      replace hf13_1 := hf13_1.step hst
      replace hb15 := he20.box hb15 nn
      replace hms := hms.ev he20
      replace hev := hev.ext he20
      refine x_pure 2 [(33, .bool x19), (2, .bool x19)] _ _ _ (by kernel_rfl) ?_
      refine x_end rfl (k_then ?_)
      refine c_ret ?_
      refine k_then_ret ?_
      refine r_ret (r_vals [.bool x19] ⟨rfl, trivial⟩ ?_)
      have hx := some_inj h
      subst hx
      have hmr : MS w20 [M] := hms.pick [some 3] _ rfl
      have hsu : ∀ x ∈ fl [M], x ∈ fl [[b15], [b9], [b0_3], M] := pick_sub [some 3] _ rfl
      exact ⟨rfl, hev⟩
    replace h := ite_f hb h
    refine x_pure 3 [(32, undef), (33, .bool false), (2, .bool false)] _ _ _ (by kernel_rfl) ?_
    refine x_end rfl (k_then ?_)
    refine c_ret ?_
    refine k_then_ret ?_
    refine r_ret (r_vals [.bool false] ⟨rfl, trivial⟩ ?_)
    have hx := some_inj h
    subst hx
    have hmr : MS w17 [M] := hms.pick [some 3] _ rfl
    have hsu : ∀ x ∈ fl [M], x ∈ fl [[b15], [b9], [b0_3], M] := pick_sub [some 3] _ rfl
    exact ⟨rfl, hev⟩
  replace h := ite_f hb h
  refine c_skip ?_
  refine k_then ?_
  refine c_seq (c_plain ?_)
  refine x_pure 1 [(7, .int .i64 0)] _ _ _ (by kernel_rfl) ?_
  refine x_end rfl (k_then ?_)
  refine c_seq ?_
  refine c_seq (c_plain ?_)
  refine x_fieldAddr (xv := .pointer (some ⟨b15, 0, none⟩)) (.pointer (some ⟨b15, 1, none⟩)) rfl rfl rfl (reads_field tfld29_1 _ _) ?_
  refine x_load (xv := .pointer (some ⟨b15, 1, none⟩)) (.slice a0_13 (x12.1.2).length c0_13) rfl rfl rfl (reads_box tcell27 hb15 nn 1 _ rfl) ?_
  refine x_len (vs := [.slice a0_13 (x12.1.2).length c0_13]) (.int .i64 ((x12.1.2).length : Int)) rfl rfl rfl (reads_len tsl27 _ _ _ _ _) ?_
  refine x_pure 1 [(37, .int .i64 0)] _ _ _ (by kernel_rfl) ?_
  refine x_end rfl (k_then ?_)
  refine c_block ?_
  have hpk : MS w17 [[b0_3], [b9], M] := hms.pick [some 2, some 1, some 3] _ rfl
  have hsu : ∀ x ∈ fl [[b0_3], [b9], M], x ∈ fl [[b15], [b9], [b0_3], M] := pick_sub [some 2, some 1, some 3] _ rfl
  replace hf3_2 := hf3_2.sub hsu
  replace hf7_1 := hf7_1.sub hsu
  replace hf13_1 := hf13_1.sub hsu
  replace hms := hpk
  replace hfr : FR w.heap.size [[b0_3], [b9]] := hfr.pick [some 2, some 1] _ rfl
  clear hpk hsu
  obtain ⟨d22, hd22, h22⟩ := bind_some h
  obtain ⟨m22, hd22⟩ := loop_some hd22
  refine c_loop (loop_rule hmx (σ := Nat × Int × Int) (fun s => match s with | (_, most_s7_l22, t37__s37_l22) => [(3, .pointer (some ⟨b0_3, 0, none⟩)), (4, .pointer (some ⟨b9, 0, none⟩)), (7, .int .i64 most_s7_l22), (35, .slice a0_13 (x12.1.2).length c0_13), (36, .int .i64 ((x12.1.2).length : Int)), (37, .int .i64 t37__s37_l22)]) (fun s w' => match s with | (m, most_s7_l22, t37__s37_l22) => loopN (law13_LeastcodeBounds_L22 x12) m (most_s7_l22, t37__s37_l22) = some d22 ∧ Ev [] w w' ∧ MS w' [[b0_3], [b9], M] ∧ FR w.heap.size [[b0_3], [b9]] ∧ SlR (eInt .i64) w' (fl [[b0_3], [b9], M]) a1_3 c1_3 x2.1 ∧ w'.heap[b0_3]? = some (.cells #[.slice a1_3 (x2.1).length c1_3, .int .i64 x6.2] 62 (0, 0)) ∧ SlR (eProd (eInt .i64) (eProd (eInt .i64) (eProd (eInt .i64) (eInt .i64)))) w' (fl [[b0_3], [b9], M]) a0_7 c0_7 x6.1.1 ∧ w'.heap[b9]? = some (.cells #[.slice a0_7 (x6.1.1).length c0_7, .int .i64 x6.1.2] 24 (0, 0)) ∧ SlR (eInt .i64) w' (fl [[b0_3], [b9], M]) a0_13 c0_13 x12.1.2) (fun s => s.1) (m22, 0, 0) ⟨rfl, rfl, rfl, rfl, rfl, rfl, trivial⟩ ⟨hd22, hev, hms, hfr, hf3_2, hf3_1, hf7_1, hb9, hf13_1⟩ ?_)
  rintro ⟨m22, most_s7_l22, t37__s37_l22⟩ J wl22 ⟨hn22, hev, hms, hfr, hf3_2, hf3_1, hf7_1, hb9, hf13_1⟩
  rcases m22 with _ | m22
  · exact (loopN_zero hn22).elim
  obtain ⟨t22, h, hn22⟩ := bind_some hn22
  refine c_seq (c_plain ?_)
  refine x_pure 1 [(38, .bool (decide (t37__s37_l22 < ((x12.1.2).length : Int))))] _ _ _ (by kernel_rfl) ?_
  refine x_end rfl (k_then ?_)
  refine c_norm [(3, .pointer (some ⟨b0_3, 0, none⟩)), (4, .pointer (some ⟨b9, 0, none⟩)), (7, .int .i64 most_s7_l22), (35, .slice a0_13 (x12.1.2).length c0_13), (36, .int .i64 ((x12.1.2).length : Int)), (37, .int .i64 t37__s37_l22), (38, .bool (decide (t37__s37_l22 < ((x12.1.2).length : Int))))] ⟨rfl, rfl, rfl, rfl, rfl, rfl, rfl, trivial⟩ (fun J => ?_)
  refine c_seq ?_
  refine c_cond (decide (t37__s37_l22 < ((x12.1.2).length : Int))) rfl (fun hb => ?_) (fun hb => ?_)
  · replace h := ite_t hb h
    refine c_skip ?_
    refine k_then ?_
    refine c_seq ?_
    refine c_block ?_
    refine c_seq (c_plain ?_)
    obtain ⟨x24, hx24, h⟩ := bind_some h
    obtain ⟨ad24, cs24, hr24, hc24, hR⟩ := reads_index (Mo := []) tsl27 hf13_1 hx24
    obtain rfl := hR
    refine x_indexAddr (xv := .slice a0_13 (x12.1.2).length c0_13) (yv := .int .i64 t37__s37_l22) (.pointer (some ad24)) rfl rfl rfl rfl hr24 ?_
    refine x_load (xv := .pointer (some ad24)) (.int .i64 x24) rfl rfl rfl (reads_cell0 tcell3 hc24 (fun _ h => by cases h)) ?_
    refine x_pure 1 [(9, .int .i64 x24)] _ _ _ (by kernel_rfl) ?_
    refine x_end rfl (k_then ?_)
    refine c_plain ?_
    refine x_pure 2 [(41, .int .i64 most_s7_l22), (42, .int .i64 x24)] _ _ _ (by kernel_rfl) ?_
    refine x_max (vs := [.int .i64 most_s7_l22, .int .i64 x24]) (.int .i64 (if x24 > most_s7_l22 then x24 else most_s7_l22)) rfl rfl rfl (fun _ _ => rfl) ?_
    refine x_pure 1 [(7, .int .i64 (if x24 > most_s7_l22 then x24 else most_s7_l22))] _ _ _ (by kernel_rfl) ?_
    refine x_end rfl ?_
    refine k_block ?_
    refine k_then ?_
    refine c_plain ?_
    refine x_pure 2 [(44, .int .i64 (IntKind.i64.wrap (t37__s37_l22 + 1))), (37, .int .i64 (IntKind.i64.wrap (t37__s37_l22 + 1)))] _ _ _ (by kernel_rfl) ?_
    refine x_end rfl ?_
    have hx := some_inj h
    subst hx
    exact k_then ⟨(m22, if x24 > most_s7_l22 then x24 else most_s7_l22, IntKind.i64.wrap (t37__s37_l22 + 1)), ⟨rfl, rfl, rfl, rfl, rfl, rfl, trivial⟩, ⟨hn22, hev, hms, hfr, hf3_2, hf3_1, hf7_1, hb9, hf13_1⟩, Nat.lt_succ_self _⟩
  replace h := ite_f hb h
  refine c_exit ?_
  refine k_then_exit ?_
  have hx := some_inj h
  subst hx
  have hy := some_inj hn22
  subst hy
  replace h := h22
  refine k_then_exit ?_
  refine k_block_in ?_
  refine k_then ?_
  refine c_norm [(3, .pointer (some ⟨b0_3, 0, none⟩)), (4, .pointer (some ⟨b9, 0, none⟩)), (7, .int .i64 most_s7_l22)] ⟨rfl, rfl, rfl, trivial⟩ (fun J => ?_)
  refine c_seq (c_plain ?_)
  refine x_load (xv := .pointer (some ⟨b9, 0, none⟩)) (.agg #[.slice a0_7 (x6.1.1).length c0_7, .int .i64 x6.1.2]) rfl rfl rfl (reads_boxagg 0 [.slice a0_7 (x6.1.1).length c0_7, .int .i64 x6.1.2] tagg24 hb9 nn rfl) ?_
  obtain ⟨x26, hx, h⟩ := bind_some h
  have hpk : MS wl22 ([] ++ [[b0_3], [b9], M]) := hms.pick [some 0, some 1, some 2] _ rfl
  have hsb0 : ∀ x ∈ fl ([] ++ [[b0_3], [b9], M]), x ∈ fl [[b0_3], [b9], M] := pick_sub [some 0, some 1, some 2] _ rfl
  have hsb : ∀ x ∈ fl ([] ++ [(fl [[b0_3], [b9], M])]), x ∈ fl [[b0_3], [b9], M] := fun x hx => hsb0 x (fl_unfold x hx)
  have hcall := leastcode_Witness_w a0_7 c0_7 x6.1.1 x6.1.2 _ wl22 (fl [[b0_3], [b9], M]) (MS.fold (P := []) hpk) (hf7_1.sub hsb) hx
  refine x_call 20 #[] #[] [.agg #[.slice a0_7 (x6.1.1).length c0_7, .int .i64 x6.1.2]] _ rfl rfl rfl rfl hcall ?_
  rintro v w27 ⟨a0_27, c0_27, rfl, he27, hmn27, hfn27, hf27_1⟩
  clear hcall hx
  refine ⟨.inl rfl, ?_⟩
  have hpk2 : MS wl22 ([] ++ [[b0_3], [b9], M]) := hms.pick [some 0, some 1, some 2] _ rfl
  have hsb2 : ∀ x ∈ fl ([] ++ [[b0_3], [b9], M]), x ∈ fl [[b0_3], [b9], M] := pick_sub [some 0, some 1, some 2] _ rfl
  have hst0 := Stp.call (LS := [[b0_3], [b9], M]) (res := [blk a0_27]) (par := []) (R := [[b0_3], [b9], M]) he27 (fun b hb => hsb2 b (fl_left' (P := []) b hb)) hfn27 (NP.init _ _) (fun x hx => hsb2 x (fl_right' (P := []) x hx))
  have hsn : ∀ x ∈ fl [blk a0_27, [b0_3], [b9], M], x ∈ fl ([blk a0_27] ++ ([] ++ [[b0_3], [b9], M])) := pick_sub [some 0, some 1, some 2, some 3] _ rfl
  have hst := hst0.res hsn
  replace hf3_1 := he27.box hf3_1 ((MS.outs (P := []) hpk2 0 rfl) _ (List.mem_singleton.2 rfl))
  replace hf3_2 := hf3_2.step hst
  replace hb9 := he27.box hb9 ((MS.outs (P := []) hpk2 1 rfl) _ (List.mem_singleton.2 rfl))
  replace hf7_1 := hf7_1.step hst
  replace hms : MS w27 [blk a0_27, [b0_3], [b9], M] := (MS.call (P := []) (R := [[b0_3], [b9], M]) (res := [blk a0_27]) (par := []) hpk2 he27 hmn27 hfn27 (NP.init _ _)).pick [some 0, some 1, some 2, some 3] _ rfl
  have hfr2 : FR w.heap.size [blk a0_27, [b0_3], [b9]] := (FR.cons (fun b hb => Nat.le_trans hev.size (hfn27.at 0 rfl b hb)) (FR.cons (hfr.at 0 rfl) (FR.cons (hfr.at 1 rfl) (FR.nil _))))
  replace hev := hev.ext he27
  replace hfr := hfr2
  clear hfr2
  replace hf27_1 := OwnS.plain (M' := fl [blk a0_27, [b0_3], [b9], M]) (plain_int _) hf27_1
  clear hpk hsb hsb0 hpk2 hsb2 hst0 hsn hst
  have hpk : MS w27 [[b0_3], [b9], M] := hms.pick [some 1, some 2, some 3] _ rfl
  have hsu : ∀ x ∈ fl [[b0_3], [b9], M], x ∈ fl [blk a0_27, [b0_3], [b9], M] := pick_sub [some 1, some 2, some 3] _ rfl
  replace hf3_2 := hf3_2.sub hsu
  replace hf7_1 := hf7_1.sub hsu
  replace hf27_1 := hf27_1.ro hsu (pick_out hms 0 rfl [some 1, some 2, some 3] [[b0_3], [b9], M] rfl rfl)
  replace hms := hpk
  replace hfr : FR w.heap.size [[b0_3], [b9]] := hfr.pick [some 1, some 2] _ rfl
  clear hpk hsu
  refine x_pure 5 [(45, .tuple #[.slice a0_27 (x26.1).length c0_27, .int .i64 x26.2]), (48, .slice a0_27 (x26.1).length c0_27), (49, .int .i64 x26.2), (10, .slice a0_27 (x26.1).length c0_27), (11, .int .i64 x26.2)] _ _ _ (by kernel_rfl) ?_
  refine x_end rfl (k_then ?_)
  refine c_seq (c_plain ?_)
  refine x_load (xv := .pointer (some ⟨b9, 0, none⟩)) (.agg #[.slice a0_7 (x6.1.1).length c0_7, .int .i64 x6.1.2]) rfl rfl rfl (reads_boxagg 0 [.slice a0_7 (x6.1.1).length c0_7, .int .i64 x6.1.2] tagg24 hb9 nn rfl) ?_
  refine x_pure 1 [(52, .slice a0_27 (x26.1).length c0_27)] _ _ _ (by kernel_rfl) ?_
  obtain ⟨x29, hx, h⟩ := bind_some h
  have hpk : MS w27 ([] ++ [[b0_3], [b9], M]) := hms.pick [some 0, some 1, some 2] _ rfl
  have hsb0 : ∀ x ∈ fl ([] ++ [[b0_3], [b9], M]), x ∈ fl [[b0_3], [b9], M] := pick_sub [some 0, some 1, some 2] _ rfl
  have hsb : ∀ x ∈ fl ([] ++ [(fl [[b0_3], [b9], M])]), x ∈ fl [[b0_3], [b9], M] := fun x hx => hsb0 x (fl_unfold x hx)
  have hcall := leastcode_Bound_w a0_7 c0_7 x6.1.1 x6.1.2 a0_27 c0_27 x26.1 _ w27 (fl [[b0_3], [b9], M]) (MS.fold (P := []) hpk) (hf7_1.sub hsb) (hf27_1.sub hsb) hx
  refine x_call 31 #[] #[] [.agg #[.slice a0_7 (x6.1.1).length c0_7, .int .i64 x6.1.2], .slice a0_27 (x26.1).length c0_27] _ rfl rfl rfl rfl hcall ?_
  rintro v w30 ⟨rfl, he30⟩
  clear hcall hx
  refine ⟨.inl rfl, ?_⟩
  have hst := Stp.ext (ls := [[b0_3], [b9], M]) he30
  replace hf3_1 := he30.box hf3_1 nn
  replace hf3_2 := hf3_2.step hst
  replace hb9 := he30.box hb9 nn
  replace hf7_1 := hf7_1.step hst
  replace hf27_1 := hf27_1.step hst
  replace hms := hms.ev he30
  replace hev := hev.ext he30
  clear hpk hsb hsb0
  refine x_pure 5 [(50, .tuple #[.int .i64 x29.1, .int .i64 x29.2]), (54, .int .i64 x29.1), (55, .int .i64 x29.2), (12, .int .i64 x29.1), (13, .int .i64 x29.2)] _ _ _ (by kernel_rfl) ?_
  refine x_end rfl (k_then ?_)
  refine c_norm [(3, .pointer (some ⟨b0_3, 0, none⟩)), (4, .pointer (some ⟨b9, 0, none⟩)), (7, .int .i64 most_s7_l22), (11, .int .i64 x26.2), (12, .int .i64 x29.1), (13, .int .i64 x29.2)] ⟨rfl, rfl, rfl, rfl, rfl, rfl, trivial⟩ (fun J => ?_)
  refine c_seq ?_
  refine c_seq (c_plain ?_)
  refine x_pure 3 [(56, .int .i64 x26.2), (57, .bool (x26.2 != 0)), (58, .bool (x26.2 != 0))] _ _ _ (by kernel_rfl) ?_
  refine x_split 58 (x26.2 != 0) rfl (fun hb => ?_) (fun hb => ?_)
  · replace h := ite_t hb h
    refine x_pure 8 [(59, undef), (60, undef), (61, .bool true), (62, .bool true), (63, undef), (64, undef), (65, undef), (66, .bool true)] _ _ _ (by kernel_rfl) ?_
    refine x_end rfl (k_then ?_)
    refine c_true rfl ?_
    refine c_seq (c_plain ?_)
    refine x_pure 1 [(2, .bool false)] _ _ _ (by kernel_rfl) ?_
    refine x_end rfl (k_then ?_)
    refine c_ret ?_
    refine k_then_ret ?_
    refine r_ret (r_vals [.bool false] ⟨rfl, trivial⟩ ?_)
    have hx := some_inj h
    subst hx
    have hmr : MS w30 [M] := hms.pick [some 2] _ rfl
    have hsu : ∀ x ∈ fl [M], x ∈ fl [[b0_3], [b9], M] := pick_sub [some 2] _ rfl
    exact ⟨rfl, hev⟩
  replace h := ite_f hb h
  refine x_pure 4 [(59, .int .i64 x29.2), (60, .bool (x29.2 != 0)), (61, .bool (x29.2 != 0)), (62, .bool (x29.2 != 0))] _ _ _ (by kernel_rfl) ?_
  refine x_split 62 (x29.2 != 0) rfl (fun hb => ?_) (fun hb => ?_)
  · replace h := ite_t hb h
    refine x_pure 4 [(63, undef), (64, undef), (65, undef), (66, .bool true)] _ _ _ (by kernel_rfl) ?_
    refine x_end rfl (k_then ?_)
    refine c_true rfl ?_
    refine c_seq (c_plain ?_)
    refine x_pure 1 [(2, .bool false)] _ _ _ (by kernel_rfl) ?_
    refine x_end rfl (k_then ?_)
    refine c_norm [(2, .bool false)] ⟨rfl, trivial⟩ (fun J => ?_)
    refine c_ret ?_
    refine k_then_ret ?_
    refine r_ret (r_vals [.bool false] ⟨rfl, trivial⟩ ?_)
    have hx := some_inj h
    subst hx
    have hmr : MS w30 [M] := hms.pick [some 2] _ rfl
    have hsu : ∀ x ∈ fl [M], x ∈ fl [[b0_3], [b9], M] := pick_sub [some 2] _ rfl
    exact ⟨rfl, hev⟩
  replace h := ite_f hb h
  refine x_pure 4 [(63, .int .i64 x29.1), (64, .int .i64 most_s7_l22), (65, .bool (x29.1 != most_s7_l22)), (66, .bool (x29.1 != most_s7_l22))] _ _ _ (by kernel_rfl) ?_
  refine x_end rfl (k_then ?_)
  refine c_cond (x29.1 != most_s7_l22) rfl (fun hb => ?_) (fun hb => ?_)
  · replace h := ite_t hb h
    refine c_seq (c_plain ?_)
    refine x_pure 1 [(2, .bool false)] _ _ _ (by kernel_rfl) ?_
    refine x_end rfl (k_then ?_)
    refine c_norm [(2, .bool false)] ⟨rfl, trivial⟩ (fun J => ?_)
    refine c_ret ?_
    refine k_then_ret ?_
    refine r_ret (r_vals [.bool false] ⟨rfl, trivial⟩ ?_)
    have hx := some_inj h
    subst hx
    have hmr : MS w30 [M] := hms.pick [some 2] _ rfl
    have hsu : ∀ x ∈ fl [M], x ∈ fl [[b0_3], [b9], M] := pick_sub [some 2] _ rfl
    exact ⟨rfl, hev⟩
  replace h := ite_f hb h
  refine c_skip ?_
  refine k_then ?_
  refine c_norm [(3, .pointer (some ⟨b0_3, 0, none⟩)), (4, .pointer (some ⟨b9, 0, none⟩)), (7, .int .i64 most_s7_l22)] ⟨rfl, rfl, rfl, trivial⟩ (fun J => ?_)
  refine c_seq ?_
  refine c_seq (c_plain ?_)
  refine x_pure 1 [(14, .int .i64 0)] _ _ _ (by kernel_rfl) ?_
  refine x_end rfl (k_then ?_)
  refine c_block ?_
  obtain ⟨d32, hd32, h32⟩ := bind_some h
  obtain ⟨m32, hd32⟩ := loop_some hd32
  refine c_loop (loop_rule hmx (σ := Nat × Int × Int) (fun s => match s with | (_, e4_l32_1, i_s14_l32) => [(3, .pointer (some ⟨b0_3, 0, none⟩)), (4, .pointer (some ⟨b9, 0, none⟩)), (7, .int .i64 most_s7_l22), (14, .int .i64 i_s14_l32)]) (fun s w' => match s with | (m, e4_l32_1, i_s14_l32) => loopN (law13_LeastcodeBounds_L32 x2 x6 most_s7_l22) m (e4_l32_1, i_s14_l32) = some d32 ∧ Ev [] w w' ∧ MS w' [[b0_3], [b9], M] ∧ FR w.heap.size [[b0_3], [b9]] ∧ SlR (eInt .i64) w' (fl [[b0_3], [b9], M]) a1_3 c1_3 x2.1 ∧ w'.heap[b0_3]? = some (.cells #[.slice a1_3 (x2.1).length c1_3, .int .i64 e4_l32_1] 62 (0, 0)) ∧ SlR (eProd (eInt .i64) (eProd (eInt .i64) (eProd (eInt .i64) (eInt .i64)))) w' (fl [[b0_3], [b9], M]) a0_7 c0_7 x6.1.1 ∧ w'.heap[b9]? = some (.cells #[.slice a0_7 (x6.1.1).length c0_7, .int .i64 x6.1.2] 24 (0, 0))) (fun s => s.1) (m32, x6.2, 0) ⟨rfl, rfl, rfl, rfl, trivial⟩ ⟨hd32, hev, hms, hfr, hf3_2, hf3_1, hf7_1, hb9⟩ ?_)
  rintro ⟨m32, e4_l32_1, i_s14_l32⟩ J wl32 ⟨hn32, hev, hms, hfr, hf3_2, hf3_1, hf7_1, hb9⟩
  rcases m32 with _ | m32
  · exact (loopN_zero hn32).elim
  obtain ⟨t32, h, hn32⟩ := bind_some hn32
  refine c_seq ?_
  refine c_seq (c_plain ?_)
  refine x_pure 2 [(67, .int .i64 i_s14_l32), (68, .bool (decide (i_s14_l32 < 5)))] _ _ _ (by kernel_rfl) ?_
  refine x_end rfl (k_then ?_)
  refine c_norm [(3, .pointer (some ⟨b0_3, 0, none⟩)), (4, .pointer (some ⟨b9, 0, none⟩)), (7, .int .i64 most_s7_l22), (14, .int .i64 i_s14_l32), (68, .bool (decide (i_s14_l32 < 5)))] ⟨rfl, rfl, rfl, rfl, rfl, trivial⟩ (fun J => ?_)
  refine c_cond (decide (i_s14_l32 < 5)) rfl (fun hb => ?_) (fun hb => ?_)
  · replace h := ite_t hb h
    refine c_skip ?_
    refine k_then ?_
    refine c_seq ?_
    refine c_block ?_
    refine c_seq (c_plain ?_)
    refine x_pure 1 [(71, .pointer (some ⟨b0_3, 0, none⟩))] _ _ _ (by kernel_rfl) ?_
    refine x_load (xv := .pointer (some ⟨b9, 0, none⟩)) (.agg #[.slice a0_7 (x6.1.1).length c0_7, .int .i64 x6.1.2]) rfl rfl rfl (reads_boxagg 0 [.slice a0_7 (x6.1.1).length c0_7, .int .i64 x6.1.2] tagg24 hb9 nn rfl) ?_
    obtain ⟨x34, hx, h⟩ := bind_some h
    have hpk : MS wl32 ([[b0_3]] ++ [[b9], M]) := hms.pick [some 0, some 1, some 2] _ rfl
    have hsb0 : ∀ x ∈ fl ([[b0_3]] ++ [[b9], M]), x ∈ fl [[b0_3], [b9], M] := pick_sub [some 0, some 1, some 2] _ rfl
    have hsb : ∀ x ∈ fl ([[b0_3]] ++ [(fl [[b9], M])]), x ∈ fl [[b0_3], [b9], M] := fun x hx => hsb0 x (fl_unfold x hx)
    have hcall := law13_chain_w b0_3 a1_3 c1_3 x2.1 e4_l32_1 a0_7 c0_7 x6.1.1 x6.1.2 _ wl32 (fl [[b9], M]) (hpk.fold (P := [[b0_3]])) (hf3_2.sub hsb) hf3_1 (hf7_1.sub hsb) hx
    refine x_call 16 #[] #[] [.pointer (some ⟨b0_3, 0, none⟩), .agg #[.slice a0_7 (x6.1.1).length c0_7, .int .i64 x6.1.2]] _ rfl rfl rfl rfl hcall ?_
    rintro v w35 ⟨a0_35, c0_35, rfl, he35, hp35_0, hmn35, hfn35, hf35_1⟩
    clear hcall hx
    refine ⟨.inl rfl, ?_⟩
    have hpk2 : MS wl32 ([[b0_3]] ++ [[b9], M]) := hms.pick [some 0, some 1, some 2] _ rfl
    have hsb2 : ∀ x ∈ fl ([[b0_3]] ++ [[b9], M]), x ∈ fl [[b0_3], [b9], M] := pick_sub [some 0, some 1, some 2] _ rfl
    have hst0 := Stp.call (LS := [[b0_3], [b9], M]) (res := [blk a0_35]) (par := [[b0_3]]) (R := [[b9], M]) he35 (fun b hb => hsb2 b (fl_left' (P := [[b0_3]]) b hb)) hfn35 (NP.init _ _) (fun x hx => hsb2 x (fl_right' (P := [[b0_3]]) x hx))
    have hsn : ∀ x ∈ fl [blk a0_35, [b0_3], [b9], M], x ∈ fl ([blk a0_35] ++ ([[b0_3]] ++ [[b9], M])) := pick_sub [some 0, some 1, some 2, some 3] _ rfl
    have hst := hst0.res hsn
    replace hf3_2 := hf3_2.step hst
    replace hb9 := he35.box hb9 ((MS.outs (P := [[b0_3]]) hpk2 0 rfl) _ (List.mem_singleton.2 rfl))
    replace hf7_1 := hf7_1.step hst
    replace hms : MS w35 [blk a0_35, [b0_3], [b9], M] := (MS.call (P := [[b0_3]]) (R := [[b9], M]) (res := [blk a0_35]) (par := [[b0_3]]) hpk2 he35 hmn35 hfn35 (NP.init _ _)).pick [some 0, some 1, some 2, some 3] _ rfl
    have hPf : ∀ b ∈ fl [[b0_3]], w.heap.size ≤ b := FR.mem (ls := [[b0_3]]) (hfr.pick [some 0] _ rfl)
    have hfr2 : FR w.heap.size [blk a0_35, [b0_3], [b9]] := (FR.cons (fun b hb => Nat.le_trans hev.size (hfn35.at 0 rfl b hb)) (FR.cons (hfr.at 0 rfl) (FR.cons (hfr.at 1 rfl) (FR.nil _))))
    replace hev := hev.then he35 (fun b hb => .inr (hPf b hb))
    replace hfr := hfr2
    clear hfr2
    replace hf3_1 := hp35_0
    replace hf35_1 := OwnS.plain (M' := fl [blk a0_35, [b0_3], [b9], M]) (plain_int _) hf35_1
    clear hpk hsb hsb0 hpk2 hsb2 hst0 hsn hst
    have hpk : MS w35 [[b0_3], [b9], M] := hms.pick [some 1, some 2, some 3] _ rfl
    have hsu : ∀ x ∈ fl [[b0_3], [b9], M], x ∈ fl [blk a0_35, [b0_3], [b9], M] := pick_sub [some 1, some 2, some 3] _ rfl
    replace hf3_2 := hf3_2.sub hsu
    replace hf7_1 := hf7_1.sub hsu
    replace hf35_1 := hf35_1.ro hsu (pick_out hms 0 rfl [some 1, some 2, some 3] [[b0_3], [b9], M] rfl rfl)
    replace hms := hpk
    replace hfr : FR w.heap.size [[b0_3], [b9]] := hfr.pick [some 1, some 2] _ rfl
    clear hpk hsu
    refine x_pure 1 [(15, .slice a0_35 (x34.1).length c0_35)] _ _ _ (by kernel_rfl) ?_
    refine x_end rfl (k_then ?_)
    refine c_seq (c_plain ?_)
    refine x_load (xv := .pointer (some ⟨b9, 0, none⟩)) (.agg #[.slice a0_7 (x6.1.1).length c0_7, .int .i64 x6.1.2]) rfl rfl rfl (reads_boxagg 0 [.slice a0_7 (x6.1.1).length c0_7, .int .i64 x6.1.2] tagg24 hb9 nn rfl) ?_
    refine x_pure 1 [(76, .slice a0_35 (x34.1).length c0_35)] _ _ _ (by kernel_rfl) ?_
    obtain ⟨x37, hx, h⟩ := bind_some h
    have hpk : MS w35 ([] ++ [[b0_3], [b9], M]) := hms.pick [some 0, some 1, some 2] _ rfl
    have hsb0 : ∀ x ∈ fl ([] ++ [[b0_3], [b9], M]), x ∈ fl [[b0_3], [b9], M] := pick_sub [some 0, some 1, some 2] _ rfl
    have hsb : ∀ x ∈ fl ([] ++ [(fl [[b0_3], [b9], M])]), x ∈ fl [[b0_3], [b9], M] := fun x hx => hsb0 x (fl_unfold x hx)
    have hcall := leastcode_Bound_w a0_7 c0_7 x6.1.1 x6.1.2 a0_35 c0_35 x34.1 _ w35 (fl [[b0_3], [b9], M]) (MS.fold (P := []) hpk) (hf7_1.sub hsb) (hf35_1.sub hsb) hx
    refine x_call 31 #[] #[] [.agg #[.slice a0_7 (x6.1.1).length c0_7, .int .i64 x6.1.2], .slice a0_35 (x34.1).length c0_35] _ rfl rfl rfl rfl hcall ?_
    rintro v w38 ⟨rfl, he38⟩
    clear hcall hx
    refine ⟨.inl rfl, ?_⟩
    have hst := Stp.ext (ls := [[b0_3], [b9], M]) he38
    replace hf3_1 := he38.box hf3_1 nn
    replace hf3_2 := hf3_2.step hst
    replace hb9 := he38.box hb9 nn
    replace hf7_1 := hf7_1.step hst
    replace hf35_1 := hf35_1.step hst
    replace hms := hms.ev he38
    replace hev := hev.ext he38
    clear hpk hsb hsb0
    refine x_pure 5 [(74, .tuple #[.int .i64 x37.1, .int .i64 x37.2]), (78, .int .i64 x37.1), (79, .int .i64 x37.2), (16, .int .i64 x37.1), (17, .int .i64 x37.2)] _ _ _ (by kernel_rfl) ?_
    refine x_end rfl (k_then ?_)
    refine c_seq (c_plain ?_)
    refine x_pure 3 [(80, .int .i64 x37.2), (81, .bool (x37.2 == 0)), (82, .bool (x37.2 == 0))] _ _ _ (by kernel_rfl) ?_
    refine x_split 82 (x37.2 == 0) rfl (fun hb => ?_) (fun hb => ?_)
    · replace h := ite_t hb h
      refine x_pure 5 [(83, .int .i64 x37.1), (84, .int .i64 most_s7_l22), (85, .bool (decide (x37.1 > most_s7_l22))), (86, .bool (decide (x37.1 > most_s7_l22))), (87, .bool (decide (x37.1 > most_s7_l22)))] _ _ _ (by kernel_rfl) ?_
      refine x_split 87 (decide (x37.1 > most_s7_l22)) rfl (fun hb => ?_) (fun hb => ?_)
      · replace h := ite_t hb h
        refine x_pure 3 [(88, undef), (89, undef), (90, .bool true)] _ _ _ (by kernel_rfl) ?_
        refine x_end rfl (k_then ?_)
        refine c_norm [(3, .pointer (some ⟨b0_3, 0, none⟩)), (4, .pointer (some ⟨b9, 0, none⟩)), (7, .int .i64 most_s7_l22), (14, .int .i64 i_s14_l32), (90, .bool true)] ⟨rfl, rfl, rfl, rfl, rfl, trivial⟩ (fun J => ?_)
        refine c_true rfl ?_
        refine c_seq (c_plain ?_)
        refine x_pure 1 [(2, .bool false)] _ _ _ (by kernel_rfl) ?_
        refine x_end rfl (k_then ?_)
        refine c_ret ?_
        refine k_block_ret ?_
        refine k_then_ret ?_
        have hx := some_inj h
        subst hx
        have hy := some_inj hn32
        subst hy
        replace h := h32
        refine k_then_ret ?_
        refine k_block_ret ?_
        refine k_then_ret ?_
        refine r_ret (r_vals [.bool false] ⟨rfl, trivial⟩ ?_)
        have hx := some_inj h
        subst hx
        have hmr : MS w38 [M] := hms.pick [some 2] _ rfl
        have hsu : ∀ x ∈ fl [M], x ∈ fl [[b0_3], [b9], M] := pick_sub [some 2] _ rfl
        exact ⟨rfl, hev⟩
      replace h := ite_f hb h
      refine x_pure 3 [(88, .int .i64 x37.2), (89, .bool (x37.2 == 15)), (90, .bool (x37.2 == 15))] _ _ _ (by kernel_rfl) ?_
      refine x_end rfl (k_then ?_)
      refine c_norm [(3, .pointer (some ⟨b0_3, 0, none⟩)), (4, .pointer (some ⟨b9, 0, none⟩)), (7, .int .i64 most_s7_l22), (14, .int .i64 i_s14_l32), (90, .bool (x37.2 == 15))] ⟨rfl, rfl, rfl, rfl, rfl, trivial⟩ (fun J => ?_)
      refine c_cond (x37.2 == 15) rfl (fun hb => ?_) (fun hb => ?_)
      · replace h := ite_t hb h
        refine c_seq (c_plain ?_)
        refine x_pure 1 [(2, .bool false)] _ _ _ (by kernel_rfl) ?_
        refine x_end rfl (k_then ?_)
        refine c_ret ?_
        refine k_block_ret ?_
        refine k_then_ret ?_
        have hx := some_inj h
        subst hx
        have hy := some_inj hn32
        subst hy
        replace h := h32
        refine k_then_ret ?_
        refine k_block_ret ?_
        refine k_then_ret ?_
        refine r_ret (r_vals [.bool false] ⟨rfl, trivial⟩ ?_)
        have hx := some_inj h
        subst hx
        have hmr : MS w38 [M] := hms.pick [some 2] _ rfl
        have hsu : ∀ x ∈ fl [M], x ∈ fl [[b0_3], [b9], M] := pick_sub [some 2] _ rfl
        exact ⟨rfl, hev⟩
      replace h := ite_f hb h
      refine c_skip ?_
      refine k_block ?_
      refine k_then ?_
      refine c_plain ?_
      refine x_pure 3 [(69, .int .i64 i_s14_l32), (70, .int .i64 (IntKind.i64.wrap (i_s14_l32 + 1))), (14, .int .i64 (IntKind.i64.wrap (i_s14_l32 + 1)))] _ _ _ (by kernel_rfl) ?_
      refine x_end rfl ?_
      have hx := some_inj h
      subst hx
      exact k_then ⟨(m32, x34.2, IntKind.i64.wrap (i_s14_l32 + 1)), ⟨rfl, rfl, rfl, rfl, trivial⟩, ⟨hn32, hev, hms, hfr, hf3_2, hf3_1, hf7_1, hb9⟩, Nat.lt_succ_self _⟩
    replace h := ite_f hb h
    refine x_pure 8 [(83, undef), (84, undef), (85, undef), (86, .bool false), (87, .bool false), (88, .int .i64 x37.2), (89, .bool (x37.2 == 15)), (90, .bool (x37.2 == 15))] _ _ _ (by kernel_rfl) ?_
    refine x_end rfl (k_then ?_)
    refine c_norm [(3, .pointer (some ⟨b0_3, 0, none⟩)), (4, .pointer (some ⟨b9, 0, none⟩)), (7, .int .i64 most_s7_l22), (14, .int .i64 i_s14_l32), (90, .bool (x37.2 == 15))] ⟨rfl, rfl, rfl, rfl, rfl, trivial⟩ (fun J => ?_)
    refine c_cond (x37.2 == 15) rfl (fun hb => ?_) (fun hb => ?_)
    · replace h := ite_t hb h
      refine c_seq (c_plain ?_)
      refine x_pure 1 [(2, .bool false)] _ _ _ (by kernel_rfl) ?_
      refine x_end rfl (k_then ?_)
      refine c_ret ?_
      refine k_block_ret ?_
      refine k_then_ret ?_
      have hx := some_inj h
      subst hx
      have hy := some_inj hn32
      subst hy
      replace h := h32
      refine k_then_ret ?_
      refine k_block_ret ?_
      refine k_then_ret ?_
      refine r_ret (r_vals [.bool false] ⟨rfl, trivial⟩ ?_)
      have hx := some_inj h
      subst hx
      have hmr : MS w38 [M] := hms.pick [some 2] _ rfl
      have hsu : ∀ x ∈ fl [M], x ∈ fl [[b0_3], [b9], M] := pick_sub [some 2] _ rfl
      exact ⟨rfl, hev⟩
    replace h := ite_f hb h
    refine c_skip ?_
    refine k_block ?_
    refine k_then ?_
    refine c_plain ?_
    refine x_pure 3 [(69, .int .i64 i_s14_l32), (70, .int .i64 (IntKind.i64.wrap (i_s14_l32 + 1))), (14, .int .i64 (IntKind.i64.wrap (i_s14_l32 + 1)))] _ _ _ (by kernel_rfl) ?_
    refine x_end rfl ?_
    have hx := some_inj h
    subst hx
    exact k_then ⟨(m32, x34.2, IntKind.i64.wrap (i_s14_l32 + 1)), ⟨rfl, rfl, rfl, rfl, trivial⟩, ⟨hn32, hev, hms, hfr, hf3_2, hf3_1, hf7_1, hb9⟩, Nat.lt_succ_self _⟩
  replace h := ite_f hb h
  refine c_exit ?_
  refine k_then_exit ?_
  have hx := some_inj h
  subst hx
  have hy := some_inj hn32
  subst hy
  replace h := h32
  refine k_then_exit ?_
  refine k_block_in ?_
  refine k_then ?_
  refine c_norm [] trivial (fun J => ?_)
  refine c_seq (c_plain ?_)
  obtain ⟨x39, hx, h⟩ := bind_some h
  have hcall := law13_sane_w _ wl32 hx
  refine x_call 13 #[] #[] [] _ rfl rfl rfl rfl hcall ?_
  rintro v w40 ⟨rfl, he40⟩
  clear hcall hx
  refine ⟨.inl rfl, ?_⟩
  have hst := Stp.ext (ls := [[b0_3], [b9], M]) he40
  replace hf3_1 := he40.box hf3_1 nn
  replace hf3_2 := hf3_2.step hst
  replace hb9 := he40.box hb9 nn
  replace hf7_1 := hf7_1.step hst
  replace hms := hms.ev he40
  replace hev := hev.ext he40
  refine x_pure 1 [(2, .bool x39)] _ _ _ (by kernel_rfl) ?_
  refine x_end rfl (k_then ?_)
  refine c_ret ?_
  refine r_ret (r_vals [.bool x39] ⟨rfl, trivial⟩ ?_)
  have hx := some_inj h
  subst hx
  have hmr : MS w40 [M] := hms.pick [some 2] _ rfl
  have hsu : ∀ x ∈ fl [M], x ∈ fl [[b0_3], [b9], M] := pick_sub [some 2] _ rfl
  exact ⟨rfl, hev⟩
end Go.Proofs.Ytgdaanhiagoonaa
