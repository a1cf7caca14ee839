/- Walks, printed by program: each function returns what the partial function of the same name returns. Conditions: those of each theorem. -/
import Derived.Test.YtgdaanhiagoonaaGT
import Derived.Test.YtgdaanhiagoonaaGgen
import Derived.Test.YtgdaanhiagoonaaGlaw13sane
import Derived.Test.YtgdaanhiagoonaaGleastcode
set_option linter.unusedVariables false
set_option linter.unusedSimpArgs false
set_option maxRecDepth 4000
namespace Go.Proofs.Ytgdaanhiagoonaa
open Go Go.V Go.Proofs
def law13_LeastcodeWeights_L34 (x12 : (Int × (List Int)) × Int) (x24 : (Int × (List Int)) × Int) (s : Int) : Option (Step Int (Unit ⊕ Unit)) :=
match s with
| t61__s61_l34 =>
(if (decide (t61__s61_l34 < ((x12.1.2).length : Int))) = true then
((idx x24.1.2 t61__s61_l34).bind fun x36 =>
((idx x12.1.2 t61__s61_l34).bind fun x38 =>
(if (decide (x36 > x38)) = true then
some (.done (.inl ()))
else
some (.next (IntKind.i64.wrap (t61__s61_l34 + 1))))))
else
some (.done (.inr ())))

def law13_LeastcodeWeights (p0 : List Int) : Option Bool :=
((gen_New p0).bind fun x2 =>
((gen_Maker_Job x2.1 x2.2 14).bind fun x6 =>
((leastcode_Least x6.1.1 x6.1.2).bind fun x12 =>
((gen_Maker_Next x2.1 x6.2 4).bind fun x21 =>
((leastcode_Least x6.1.1 (if (IntKind.i64.wrap (x6.1.2 + x21.1)) < 12 then (IntKind.i64.wrap (x6.1.2 + x21.1)) else 12)).bind fun x24 =>
(if (x12.2 != 0) = true then
(if (x12.2 == 15) = true then
((law13_sane).bind fun x31 =>
some x31)
else
some false)
else
(if (x24.2 != 0) = true then
some false
else
(if (((x12.1.2).length : Int) != ((x24.1.2).length : Int)) = true then
some false
else
(if (decide (x24.1.1 > x12.1.1)) = true then
some false
else
((loop (law13_LeastcodeWeights_L34 x12 x24) 0).bind fun d => match d with
| (.inl _) => some false
| (.inr _) => ((law13_sane).bind fun x40 =>
some x40)))))))))))

theorem law13_LeastcodeWeights_w (a_p0 : Option Addr) (c_p0 : Nat) (p0 : List Int) (r : Bool) (w : World) (M : List Nat) (hms : MS w [M]) (hs_p0 : SlR (eInt .i64) w (fl [M]) a_p0 c_p0 p0) (h : law13_LeastcodeWeights p0 = some r) : CallVC Try.prog 9 [.slice a_p0 (p0).length c_p0] w fun v w' => v = .bool r ∧ Ev [] w w' := by
  refine calls_vc hmx Try.func9 (by kernel_rfl) rfl (rs := [.tmp 2]) rfl (by kernel_rfl) (args := [.slice a_p0 (p0).length c_p0]) rfl ?_
  have hev : Ev [] w w := Ev.refl _ _
  have hfr : FR w.heap.size [] := FR.nil _
  refine c_seq (c_plain ?_)
  refine x_pure 1 [(2, .bool false)] _ _ _ (by kernel_rfl) ?_
  refine x_end rfl (k_then ?_)
  refine c_seq (c_plain ?_)
  refine x_pure 1 [(11, .slice a_p0 (p0).length c_p0)] _ _ _ (by kernel_rfl) ?_
  obtain ⟨x2, hx, h⟩ := bind_some h
  have hpk : MS w ([] ++ [M]) := hms.pick [some 0] _ rfl
  have hsb0 : ∀ x ∈ fl ([] ++ [M]), x ∈ fl [M] := pick_sub [some 0] _ rfl
  have hsb : ∀ x ∈ fl ([] ++ [(fl [M])]), x ∈ fl [M] := fun x hx => hsb0 x (fl_unfold x hx)
  have hcall := gen_New_w a_p0 c_p0 p0 _ w (fl [M]) (MS.fold (P := []) hpk) (hs_p0.sub hsb) hx
  refine x_call 14 #[] #[] [.slice a_p0 (p0).length c_p0] _ rfl rfl rfl rfl hcall ?_
  rintro v w3 ⟨b0_3, a1_3, c1_3, rfl, he3, hmn3, hfn3, hf3_1, hf3_2⟩
  clear hcall hx
  refine ⟨.inl rfl, ?_⟩
  have hpk2 : MS w ([] ++ [M]) := hms.pick [some 0] _ rfl
  have hsb2 : ∀ x ∈ fl ([] ++ [M]), x ∈ fl [M] := pick_sub [some 0] _ rfl
  have hst0 := Stp.call (LS := [M]) (res := [[b0_3]]) (par := []) (R := [M]) he3 (fun b hb => hsb2 b (fl_left' (P := []) b hb)) hfn3 (NP.init _ _) (fun x hx => hsb2 x (fl_right' (P := []) x hx))
  have hsn : ∀ x ∈ fl [[b0_3], M], x ∈ fl ([[b0_3]] ++ ([] ++ [M])) := pick_sub [some 0, some 1] _ rfl
  have hst := hst0.res hsn
  replace hs_p0 := hs_p0.step hst
  replace hms : MS w3 [[b0_3], M] := (MS.call (P := []) (R := [M]) (res := [[b0_3]]) (par := []) hpk2 he3 hmn3 hfn3 (NP.init _ _)).pick [some 0, some 1] _ rfl
  have hfr2 : FR w.heap.size [[b0_3]] := (FR.cons (fun b hb => Nat.le_trans hev.size (hfn3.at 0 rfl b hb)) (FR.nil _))
  replace hev := hev.ext he3
  replace hfr := hfr2
  clear hfr2
  have hsp : ∀ x ∈ fl [[b0_3], M], x ∈ fl ([[b0_3]] ++ ([] ++ [(fl [M])])) := fun x hx => fl_tot (res := [[b0_3]]) (par := []) (R := [M]) x (hsn x hx)
  replace hf3_2 := hf3_2.sub hsp
  clear hpk hsb hsb0 hpk2 hsb2 hst0 hsn hst
  refine x_pure 1 [(3, .pointer (some ⟨b0_3, 0, none⟩))] _ _ _ (by kernel_rfl) ?_
  refine x_end rfl (k_then ?_)
  refine c_seq (c_plain ?_)
  refine x_pure 1 [(13, .pointer (some ⟨b0_3, 0, none⟩))] _ _ _ (by kernel_rfl) ?_
  obtain ⟨x6, hx, h⟩ := bind_some h
  have hpk : MS w3 ([[b0_3]] ++ [M]) := hms.pick [some 0, some 1] _ rfl
  have hsb0 : ∀ x ∈ fl ([[b0_3]] ++ [M]), x ∈ fl [[b0_3], M] := pick_sub [some 0, some 1] _ rfl
  have hsb : ∀ x ∈ fl ([[b0_3]] ++ [(fl [M])]), x ∈ fl [[b0_3], M] := fun x hx => hsb0 x (fl_unfold x hx)
  have hcall := gen_Maker_Job_w b0_3 a1_3 c1_3 x2.1 x2.2 14 _ w3 (fl [M]) (hpk.fold (P := [[b0_3]])) (hf3_2.sub hsb) hf3_1 hx
  refine x_call 15 #[] #[] [.pointer (some ⟨b0_3, 0, none⟩), .int .i64 14] _ rfl rfl rfl rfl hcall ?_
  rintro v w7 ⟨a0_7, c0_7, rfl, he7, hp7_0, hmn7, hfn7, hf7_1⟩
  clear hcall hx
  refine ⟨.inl rfl, ?_⟩
  have hpk2 : MS w3 ([[b0_3]] ++ [M]) := hms.pick [some 0, some 1] _ rfl
  have hsb2 : ∀ x ∈ fl ([[b0_3]] ++ [M]), x ∈ fl [[b0_3], M] := pick_sub [some 0, some 1] _ rfl
  have hst0 := Stp.call (LS := [[b0_3], M]) (res := [blk a0_7]) (par := [[b0_3]]) (R := [M]) he7 (fun b hb => hsb2 b (fl_left' (P := [[b0_3]]) b hb)) hfn7 (NP.init _ _) (fun x hx => hsb2 x (fl_right' (P := [[b0_3]]) x hx))
  have hsn : ∀ x ∈ fl [blk a0_7, [b0_3], M], x ∈ fl ([blk a0_7] ++ ([[b0_3]] ++ [M])) := pick_sub [some 0, some 1, some 2] _ rfl
  have hst := hst0.res hsn
  replace hf3_2 := hf3_2.step hst
  replace hms : MS w7 [blk a0_7, [b0_3], M] := (MS.call (P := [[b0_3]]) (R := [M]) (res := [blk a0_7]) (par := [[b0_3]]) hpk2 he7 hmn7 hfn7 (NP.init _ _)).pick [some 0, some 1, some 2] _ rfl
  have hPf : ∀ b ∈ fl [[b0_3]], w.heap.size ≤ b := FR.mem (ls := [[b0_3]]) (hfr.pick [some 0] _ rfl)
  have hfr2 : FR w.heap.size [blk a0_7, [b0_3]] := (FR.cons (fun b hb => Nat.le_trans hev.size (hfn7.at 0 rfl b hb)) (FR.cons (hfr.at 0 rfl) (FR.nil _)))
  replace hev := hev.then he7 (fun b hb => .inr (hPf b hb))
  replace hfr := hfr2
  clear hfr2
  replace hf3_1 := hp7_0
  replace hf7_1 := OwnS.plain (M' := fl [blk a0_7, [b0_3], M]) (plain_prod (plain_int _) (plain_prod (plain_int _) (plain_prod (plain_int _) (plain_int _)))) hf7_1
  clear hpk hsb hsb0 hpk2 hsb2 hst0 hsn hst
  have hpk : MS w7 [[b0_3], M] := hms.pick [some 1, some 2] _ rfl
  have hsu : ∀ x ∈ fl [[b0_3], M], x ∈ fl [blk a0_7, [b0_3], M] := pick_sub [some 1, some 2] _ rfl
  replace hf3_2 := hf3_2.sub hsu
  replace hf7_1 := hf7_1.ro hsu (pick_out hms 0 rfl [some 1, some 2] [[b0_3], M] rfl rfl)
  replace hms := hpk
  replace hfr : FR w.heap.size [[b0_3]] := hfr.pick [some 1] _ rfl
  clear hpk hsu
  refine x_alloc (z := .agg #[.slice none 0 0, .int .i64 0]) rfl rfl (by kernel_rfl) (fun b9 w9 hq9 hb9 he9 hz9 => ?_)
  replace hb9 : w9.heap[b9]? = some (.cells #[.slice none 0 0, .int .i64 0] 24 (0, 0)) := hb9
  refine ⟨.inl rfl, ?_⟩
  have hst := Stp.box (ls := [[b0_3], M]) he9 hq9
  replace hf3_1 := he9.box hf3_1 nn
  replace hf3_2 := hf3_2.step hst
  replace hf7_1 := hf7_1.step hst
  replace hms := hms.box he9 hq9 hb9
  replace hfr := hfr.box hev.size hq9
  replace hev := hev.ext he9
  obtain ⟨w11, hr11, hb11, he11⟩ := store_boxagg 0 [.slice a0_7 (x6.1.1).length c0_7, .int .i64 x6.1.2] #[.slice a0_7 (x6.1.1).length c0_7, .int .i64 x6.1.2] tagg24 hb9 rfl rfl rfl
  refine x_store w11 (xv := .pointer (some ⟨b9, 0, none⟩)) (yv := .agg #[.slice a0_7 (x6.1.1).length c0_7, .int .i64 x6.1.2]) rfl rfl rfl rfl hr11 ?_
  refine ⟨.inl rfl, ?_⟩
  have hst := Stp.ev' (ls := [[b9], [b0_3], M]) he11 (mem_flat 0 rfl)
  replace hf3_1 := he11.box hf3_1 (hms.apart 1 0 rfl rfl rfl _ (List.mem_singleton.2 rfl))
  replace hf3_2 := hf3_2.step hst
  replace hf7_1 := hf7_1.step hst
  replace hms := hms.ev he11
  replace hev := hev.then he11 (fun b hb => .inr (hfr.at 0 rfl b hb))
  replace hb9 := hb11
  refine x_end rfl (k_then ?_)
  refine c_seq (c_plain ?_)
  refine x_load (xv := .pointer (some ⟨b9, 0, none⟩)) (.agg #[.slice a0_7 (x6.1.1).length c0_7, .int .i64 x6.1.2]) rfl rfl rfl (reads_boxagg 0 [.slice a0_7 (x6.1.1).length c0_7, .int .i64 x6.1.2] tagg24 hb9 nn rfl) ?_
  obtain ⟨x12, hx, h⟩ := bind_some h
  have hpk : MS w11 ([] ++ [[b9], [b0_3], M]) := hms.pick [some 0, some 1, some 2] _ rfl
  have hsb0 : ∀ x ∈ fl ([] ++ [[b9], [b0_3], M]), x ∈ fl [[b9], [b0_3], M] := pick_sub [some 0, some 1, some 2] _ rfl
  have hsb : ∀ x ∈ fl ([] ++ [(fl [[b9], [b0_3], M])]), x ∈ fl [[b9], [b0_3], M] := fun x hx => hsb0 x (fl_unfold x hx)
  have hcall := leastcode_Least_w a0_7 c0_7 x6.1.1 x6.1.2 _ w11 (fl [[b9], [b0_3], M]) (MS.fold (P := []) hpk) (hf7_1.sub hsb) hx
  refine x_call 12 #[] #[] [.agg #[.slice a0_7 (x6.1.1).length c0_7, .int .i64 x6.1.2]] _ rfl rfl rfl rfl hcall ?_
  rintro v w13 ⟨a0_13, c0_13, rfl, he13, hmn13, hfn13, hf13_1⟩
  clear hcall hx
  refine ⟨.inl rfl, ?_⟩
  have hpk2 : MS w11 ([] ++ [[b9], [b0_3], M]) := hms.pick [some 0, some 1, some 2] _ rfl
  have hsb2 : ∀ x ∈ fl ([] ++ [[b9], [b0_3], M]), x ∈ fl [[b9], [b0_3], M] := pick_sub [some 0, some 1, some 2] _ rfl
  have hst0 := Stp.call (LS := [[b9], [b0_3], M]) (res := [blk a0_13]) (par := []) (R := [[b9], [b0_3], M]) he13 (fun b hb => hsb2 b (fl_left' (P := []) b hb)) hfn13 (NP.init _ _) (fun x hx => hsb2 x (fl_right' (P := []) x hx))
  have hsn : ∀ x ∈ fl [blk a0_13, [b9], [b0_3], M], x ∈ fl ([blk a0_13] ++ ([] ++ [[b9], [b0_3], M])) := pick_sub [some 0, some 1, some 2, some 3] _ rfl
  have hst := hst0.res hsn
  replace hf3_1 := he13.box hf3_1 ((MS.outs (P := []) hpk2 1 rfl) _ (List.mem_singleton.2 rfl))
  replace hf3_2 := hf3_2.step hst
  replace hf7_1 := hf7_1.step hst
  replace hb9 := he13.box hb9 ((MS.outs (P := []) hpk2 0 rfl) _ (List.mem_singleton.2 rfl))
  replace hms : MS w13 [blk a0_13, [b9], [b0_3], M] := (MS.call (P := []) (R := [[b9], [b0_3], M]) (res := [blk a0_13]) (par := []) hpk2 he13 hmn13 hfn13 (NP.init _ _)).pick [some 0, some 1, some 2, some 3] _ rfl
  have hfr2 : FR w.heap.size [blk a0_13, [b9], [b0_3]] := (FR.cons (fun b hb => Nat.le_trans hev.size (hfn13.at 0 rfl b hb)) (FR.cons (hfr.at 0 rfl) (FR.cons (hfr.at 1 rfl) (FR.nil _))))
  replace hev := hev.ext he13
  replace hfr := hfr2
  clear hfr2
  replace hf13_1 := OwnS.plain (M' := fl [blk a0_13, [b9], [b0_3], M]) (plain_int _) hf13_1
  clear hpk hsb hsb0 hpk2 hsb2 hst0 hsn hst
  have hpk : MS w13 [[b9], [b0_3], M] := hms.pick [some 1, some 2, some 3] _ rfl
  have hsu : ∀ x ∈ fl [[b9], [b0_3], M], x ∈ fl [blk a0_13, [b9], [b0_3], M] := pick_sub [some 1, some 2, some 3] _ rfl
  replace hf3_2 := hf3_2.sub hsu
  replace hf7_1 := hf7_1.sub hsu
  replace hf13_1 := hf13_1.ro hsu (pick_out hms 0 rfl [some 1, some 2, some 3] [[b9], [b0_3], M] rfl rfl)
  replace hms := hpk
  replace hfr : FR w.heap.size [[b9], [b0_3]] := hfr.pick [some 1, some 2] _ rfl
  clear hpk hsu
  refine x_pure 3 [(15, .tuple #[.agg #[.int .i64 x12.1.1, .slice a0_13 (x12.1.2).length c0_13], .int .i64 x12.2]), (18, .agg #[.int .i64 x12.1.1, .slice a0_13 (x12.1.2).length c0_13]), (19, .int .i64 x12.2)] _ _ _ (by kernel_rfl) ?_
  refine x_alloc (z := .agg #[.int .i64 0, .slice none 0 0]) rfl rfl (by kernel_rfl) (fun b15 w15 hq15 hb15 he15 hz15 => ?_)
  replace hb15 : w15.heap[b15]? = some (.cells #[.int .i64 0, .slice none 0 0] 29 (0, 0)) := hb15
  refine ⟨.inl rfl, ?_⟩
  have hst := Stp.box (ls := [[b9], [b0_3], M]) he15 hq15
  replace hf3_1 := he15.box hf3_1 nn
  replace hf3_2 := hf3_2.step hst
  replace hf7_1 := hf7_1.step hst
  replace hb9 := he15.box hb9 nn
  replace hf13_1 := hf13_1.step hst
  replace hms := hms.box he15 hq15 hb15
  replace hfr := hfr.box hev.size hq15
  replace hev := hev.ext he15
  obtain ⟨w17, hr17, hb17, he17⟩ := store_boxagg 0 [.int .i64 x12.1.1, .slice a0_13 (x12.1.2).length c0_13] #[.int .i64 x12.1.1, .slice a0_13 (x12.1.2).length c0_13] tagg29 hb15 rfl rfl rfl
  refine x_store w17 (xv := .pointer (some ⟨b15, 0, none⟩)) (yv := .agg #[.int .i64 x12.1.1, .slice a0_13 (x12.1.2).length c0_13]) rfl rfl rfl rfl hr17 ?_
  refine ⟨.inl rfl, ?_⟩
  have hst := Stp.ev' (ls := [[b15], [b9], [b0_3], M]) he17 (mem_flat 0 rfl)
  replace hf3_1 := he17.box hf3_1 (hms.apart 2 0 rfl rfl rfl _ (List.mem_singleton.2 rfl))
  replace hf3_2 := hf3_2.step hst
  replace hf7_1 := hf7_1.step hst
  replace hb9 := he17.box hb9 (hms.apart 1 0 rfl rfl rfl _ (List.mem_singleton.2 rfl))
  replace hf13_1 := hf13_1.step hst
  replace hms := hms.ev he17
  replace hev := hev.then he17 (fun b hb => .inr (hfr.at 0 rfl b hb))
  replace hb15 := hb17
  refine x_pure 1 [(6, .int .i64 x12.2)] _ _ _ (by kernel_rfl) ?_
  refine x_end rfl (k_then ?_)
  refine c_norm [(3, .pointer (some ⟨b0_3, 0, none⟩)), (4, .pointer (some ⟨b9, 0, none⟩)), (5, .pointer (some ⟨b15, 0, none⟩)), (6, .int .i64 x12.2)] ⟨rfl, rfl, rfl, rfl, trivial⟩ (fun J => ?_)
  refine c_seq (c_plain ?_)
  refine x_load (xv := .pointer (some ⟨b9, 0, none⟩)) (.agg #[.slice a0_7 (x6.1.1).length c0_7, .int .i64 x6.1.2]) rfl rfl rfl (reads_boxagg 0 [.slice a0_7 (x6.1.1).length c0_7, .int .i64 x6.1.2] tagg24 hb9 nn rfl) ?_
  refine x_alloc (z := .agg #[.slice none 0 0, .int .i64 0]) rfl rfl (by kernel_rfl) (fun b18 w18 hq18 hb18 he18 hz18 => ?_)
  replace hb18 : w18.heap[b18]? = some (.cells #[.slice none 0 0, .int .i64 0] 24 (0, 0)) := hb18
  refine ⟨.inl rfl, ?_⟩
  have hst := Stp.box (ls := [[b15], [b9], [b0_3], M]) he18 hq18
  replace hf3_1 := he18.box hf3_1 nn
  replace hf3_2 := hf3_2.step hst
  replace hf7_1 := hf7_1.step hst
  replace hb9 := he18.box hb9 nn
  replace hf13_1 := hf13_1.step hst
  replace hb15 := he18.box hb15 nn
  replace hms := hms.box he18 hq18 hb18
  replace hfr := hfr.box hev.size hq18
  replace hev := hev.ext he18
  obtain ⟨w20, hr20, hb20, he20⟩ := store_boxagg 0 [.slice a0_7 (x6.1.1).length c0_7, .int .i64 x6.1.2] #[.slice a0_7 (x6.1.1).length c0_7, .int .i64 x6.1.2] tagg24 hb18 rfl rfl rfl
  refine x_store w20 (xv := .pointer (some ⟨b18, 0, none⟩)) (yv := .agg #[.slice a0_7 (x6.1.1).length c0_7, .int .i64 x6.1.2]) rfl rfl rfl rfl hr20 ?_
  refine ⟨.inl rfl, ?_⟩
  have hst := Stp.ev' (ls := [[b18], [b15], [b9], [b0_3], M]) he20 (mem_flat 0 rfl)
  replace hf3_1 := he20.box hf3_1 (hms.apart 3 0 rfl rfl rfl _ (List.mem_singleton.2 rfl))
  replace hf3_2 := hf3_2.step hst
  replace hf7_1 := hf7_1.step hst
  replace hb9 := he20.box hb9 (hms.apart 2 0 rfl rfl rfl _ (List.mem_singleton.2 rfl))
  replace hf13_1 := hf13_1.step hst
  replace hb15 := he20.box hb15 (hms.apart 1 0 rfl rfl rfl _ (List.mem_singleton.2 rfl))
  replace hms := hms.ev he20
  replace hev := hev.then he20 (fun b hb => .inr (hfr.at 0 rfl b hb))
  replace hb18 := hb20
  refine x_end rfl (k_then ?_)
  refine c_seq ?_
  refine c_drawn [b0_3] [(0, false), (1, false), (2, true), (3, false), (4, true), (5, false), (6, true), (7, true)] _ (by kernel_rfl) rfl ?_
  have hst := Stp.ext (ls := [[b18], [b15], [b9], [b0_3], M]) (Ev.drew w20)
  replace hf3_1 := (Ev.drew w20).box hf3_1 nn
  replace hf3_2 := hf3_2.step hst
  replace hf7_1 := hf7_1.step hst
  replace hb9 := (Ev.drew w20).box hb9 nn
  replace hf13_1 := hf13_1.step hst
  replace hb15 := (Ev.drew w20).box hb15 nn
  replace hb18 := (Ev.drew w20).box hb18 nn
  replace hms := hms.ev (Ev.drew w20)
  replace hev := hev.ext (Ev.drew w20)
  refine x_fieldAddr (xv := .pointer (some ⟨b9, 0, none⟩)) (.pointer (some ⟨b9, 1, none⟩)) rfl rfl rfl (reads_field tfld24_1 _ _) ?_
  refine x_load (xv := .pointer (some ⟨b9, 1, none⟩)) (.int .i64 x6.1.2) rfl rfl rfl (reads_box tcell3 hb9 ((hms.apart 2 3 rfl rfl rfl) _ (List.mem_singleton.2 rfl)) 1 _ rfl) ?_
  refine x_pure 1 [(23, .pointer (some ⟨b0_3, 0, none⟩))] _ _ _ (by kernel_rfl) ?_
  obtain ⟨x21, hx, h⟩ := bind_some h
  have hpk : MS (w20).drew ([[b0_3]] ++ [[b18], [b15], [b9], M]) := hms.pick [some 3, some 0, some 1, some 2, some 4] _ rfl
  have hsb0 : ∀ x ∈ fl ([[b0_3]] ++ [[b18], [b15], [b9], M]), x ∈ fl [[b18], [b15], [b9], [b0_3], M] := pick_sub [some 3, some 0, some 1, some 2, some 4] _ rfl
  have hsb : ∀ x ∈ fl ([[b0_3]] ++ [(fl [[b18], [b15], [b9], M])]), x ∈ fl [[b18], [b15], [b9], [b0_3], M] := fun x hx => hsb0 x (fl_unfold x hx)
  have hcall := gen_Maker_Next_w b0_3 a1_3 c1_3 x2.1 x6.2 4 _ (w20).drew (fl [[b18], [b15], [b9], M]) (hpk.fold (P := [[b0_3]])) (hf3_2.sub hsb) hf3_1 hx
  refine x_call 32 #[] #[] [.pointer (some ⟨b0_3, 0, none⟩), .int .i64 4] _ rfl rfl rfl rfl hcall ?_
  rintro v w22 ⟨rfl, he22, hp22_0⟩
  clear hcall hx
  refine ⟨.inr he22, ?_⟩
  have hpk2 : MS (w20).drew ([[b0_3]] ++ [[b18], [b15], [b9], M]) := hms.pick [some 3, some 0, some 1, some 2, some 4] _ rfl
  have hsb2 : ∀ x ∈ fl ([[b0_3]] ++ [[b18], [b15], [b9], M]), x ∈ fl [[b18], [b15], [b9], [b0_3], M] := pick_sub [some 3, some 0, some 1, some 2, some 4] _ rfl
  have hst0 := Stp.call (LS := [[b18], [b15], [b9], [b0_3], M]) (res := []) (par := [[b0_3]]) (R := [[b18], [b15], [b9], M]) he22 (fun b hb => hsb2 b (fl_left' (P := [[b0_3]]) b hb)) (FR.nil _) (NP.init _ _) (fun x hx => hsb2 x (fl_right' (P := [[b0_3]]) x hx))
  have hsn : ∀ x ∈ fl [[b18], [b15], [b9], [b0_3], M], x ∈ fl ([] ++ ([[b0_3]] ++ [[b18], [b15], [b9], M])) := pick_sub [some 1, some 2, some 3, some 0, some 4] _ rfl
  have hst := hst0.res hsn
  replace hf3_2 := hf3_2.step hst
  replace hf7_1 := hf7_1.step hst
  replace hb9 := he22.box hb9 ((MS.outs (P := [[b0_3]]) hpk2 2 rfl) _ (List.mem_singleton.2 rfl))
  replace hf13_1 := hf13_1.step hst
  replace hb15 := he22.box hb15 ((MS.outs (P := [[b0_3]]) hpk2 1 rfl) _ (List.mem_singleton.2 rfl))
  replace hb18 := he22.box hb18 ((MS.outs (P := [[b0_3]]) hpk2 0 rfl) _ (List.mem_singleton.2 rfl))
  replace hms := hms.ev he22
  have hPf : ∀ b ∈ fl [[b0_3]], w.heap.size ≤ b := FR.mem (ls := [[b0_3]]) (hfr.pick [some 3] _ rfl)
  replace hev := hev.then he22 (fun b hb => .inr (hPf b hb))
  replace hf3_1 := hp22_0
  clear hpk hsb hsb0 hpk2 hsb2 hst0 hsn hst
  refine x_pure 1 [(25, .int .i64 (IntKind.i64.wrap (x6.1.2 + x21.1)))] _ _ _ (by kernel_rfl) ?_
  refine x_min (vs := [.int .i64 12, .int .i64 (IntKind.i64.wrap (x6.1.2 + x21.1))]) (.int .i64 (if (IntKind.i64.wrap (x6.1.2 + x21.1)) < 12 then (IntKind.i64.wrap (x6.1.2 + x21.1)) else 12)) rfl rfl rfl (fun _ _ => rfl) ?_
  refine x_fieldAddr (xv := .pointer (some ⟨b18, 0, none⟩)) (.pointer (some ⟨b18, 1, none⟩)) rfl rfl rfl (reads_field tfld24_1 _ _) ?_
  obtain ⟨w23, hr23, hb23, he23⟩ := store_box 1 (.int .i64 (if (IntKind.i64.wrap (x6.1.2 + x21.1)) < 12 then (IntKind.i64.wrap (x6.1.2 + x21.1)) else 12)) #[.slice a0_7 (x6.1.1).length c0_7, .int .i64 (if (IntKind.i64.wrap (x6.1.2 + x21.1)) < 12 then (IntKind.i64.wrap (x6.1.2 + x21.1)) else 12)] tcell3 hb18 rfl rfl rfl
  refine x_store w23 (xv := .pointer (some ⟨b18, 1, none⟩)) (yv := .int .i64 (if (IntKind.i64.wrap (x6.1.2 + x21.1)) < 12 then (IntKind.i64.wrap (x6.1.2 + x21.1)) else 12)) rfl rfl rfl rfl hr23 ?_
  refine ⟨.inl rfl, ?_⟩
  have hst := Stp.ev' (ls := [[b18], [b15], [b9], [b0_3], M]) he23 (mem_flat 0 rfl)
  replace hf3_1 := he23.box hf3_1 (hms.apart 3 0 rfl rfl rfl _ (List.mem_singleton.2 rfl))
  replace hf3_2 := hf3_2.step hst
  replace hf7_1 := hf7_1.step hst
  replace hb9 := he23.box hb9 (hms.apart 2 0 rfl rfl rfl _ (List.mem_singleton.2 rfl))
  replace hf13_1 := hf13_1.step hst
  replace hb15 := he23.box hb15 (hms.apart 1 0 rfl rfl rfl _ (List.mem_singleton.2 rfl))
  replace hms := hms.ev he23
  replace hev := hev.then he23 (fun b hb => .inr (hfr.at 0 rfl b hb))
  replace hb18 := hb23
  refine x_end rfl (k_then ?_)
  refine c_seq (c_plain ?_)
  refine x_load (xv := .pointer (some ⟨b18, 0, none⟩)) (.agg #[.slice a0_7 (x6.1.1).length c0_7, .int .i64 (if (IntKind.i64.wrap (x6.1.2 + x21.1)) < 12 then (IntKind.i64.wrap (x6.1.2 + x21.1)) else 12)]) rfl rfl rfl (reads_boxagg 0 [.slice a0_7 (x6.1.1).length c0_7, .int .i64 (if (IntKind.i64.wrap (x6.1.2 + x21.1)) < 12 then (IntKind.i64.wrap (x6.1.2 + x21.1)) else 12)] tagg24 hb18 nn rfl) ?_
  obtain ⟨x24, hx, h⟩ := bind_some h
  have hpk : MS w23 ([] ++ [[b18], [b15], [b9], [b0_3], M]) := hms.pick [some 0, some 1, some 2, some 3, some 4] _ rfl
  have hsb0 : ∀ x ∈ fl ([] ++ [[b18], [b15], [b9], [b0_3], M]), x ∈ fl [[b18], [b15], [b9], [b0_3], M] := pick_sub [some 0, some 1, some 2, some 3, some 4] _ rfl
  have hsb : ∀ x ∈ fl ([] ++ [(fl [[b18], [b15], [b9], [b0_3], M])]), x ∈ fl [[b18], [b15], [b9], [b0_3], M] := fun x hx => hsb0 x (fl_unfold x hx)
  have hcall := leastcode_Least_w a0_7 c0_7 x6.1.1 (if (IntKind.i64.wrap (x6.1.2 + x21.1)) < 12 then (IntKind.i64.wrap (x6.1.2 + x21.1)) else 12) _ w23 (fl [[b18], [b15], [b9], [b0_3], M]) (MS.fold (P := []) hpk) (hf7_1.sub hsb) hx
  refine x_call 12 #[] #[] [.agg #[.slice a0_7 (x6.1.1).length c0_7, .int .i64 (if (IntKind.i64.wrap (x6.1.2 + x21.1)) < 12 then (IntKind.i64.wrap (x6.1.2 + x21.1)) else 12)]] _ rfl rfl rfl rfl hcall ?_
  rintro v w25 ⟨a0_25, c0_25, rfl, he25, hmn25, hfn25, hf25_1⟩
  clear hcall hx
  refine ⟨.inl rfl, ?_⟩
  have hpk2 : MS w23 ([] ++ [[b18], [b15], [b9], [b0_3], M]) := hms.pick [some 0, some 1, some 2, some 3, some 4] _ rfl
  have hsb2 : ∀ x ∈ fl ([] ++ [[b18], [b15], [b9], [b0_3], M]), x ∈ fl [[b18], [b15], [b9], [b0_3], M] := pick_sub [some 0, some 1, some 2, some 3, some 4] _ rfl
  have hst0 := Stp.call (LS := [[b18], [b15], [b9], [b0_3], M]) (res := [blk a0_25]) (par := []) (R := [[b18], [b15], [b9], [b0_3], M]) he25 (fun b hb => hsb2 b (fl_left' (P := []) b hb)) hfn25 (NP.init _ _) (fun x hx => hsb2 x (fl_right' (P := []) x hx))
  have hsn : ∀ x ∈ fl [blk a0_25, [b18], [b15], [b9], [b0_3], M], x ∈ fl ([blk a0_25] ++ ([] ++ [[b18], [b15], [b9], [b0_3], M])) := pick_sub [some 0, some 1, some 2, some 3, some 4, some 5] _ rfl
  have hst := hst0.res hsn
  replace hf3_1 := he25.box hf3_1 ((MS.outs (P := []) hpk2 3 rfl) _ (List.mem_singleton.2 rfl))
  replace hf3_2 := hf3_2.step hst
  replace hf7_1 := hf7_1.step hst
  replace hb9 := he25.box hb9 ((MS.outs (P := []) hpk2 2 rfl) _ (List.mem_singleton.2 rfl))
  replace hf13_1 := hf13_1.step hst
  replace hb15 := he25.box hb15 ((MS.outs (P := []) hpk2 1 rfl) _ (List.mem_singleton.2 rfl))
  replace hb18 := he25.box hb18 ((MS.outs (P := []) hpk2 0 rfl) _ (List.mem_singleton.2 rfl))
  replace hms : MS w25 [blk a0_25, [b18], [b15], [b9], [b0_3], M] := (MS.call (P := []) (R := [[b18], [b15], [b9], [b0_3], M]) (res := [blk a0_25]) (par := []) hpk2 he25 hmn25 hfn25 (NP.init _ _)).pick [some 0, some 1, some 2, some 3, some 4, some 5] _ rfl
  have hfr2 : FR w.heap.size [blk a0_25, [b18], [b15], [b9], [b0_3]] := (FR.cons (fun b hb => Nat.le_trans hev.size (hfn25.at 0 rfl b hb)) (FR.cons (hfr.at 0 rfl) (FR.cons (hfr.at 1 rfl) (FR.cons (hfr.at 2 rfl) (FR.cons (hfr.at 3 rfl) (FR.nil _))))))
  replace hev := hev.ext he25
  replace hfr := hfr2
  clear hfr2
  replace hf25_1 := OwnS.plain (M' := fl [blk a0_25, [b18], [b15], [b9], [b0_3], M]) (plain_int _) hf25_1
  clear hpk hsb hsb0 hpk2 hsb2 hst0 hsn hst
  have hpk : MS w25 [[b18], [b15], [b9], [b0_3], M] := hms.pick [some 1, some 2, some 3, some 4, some 5] _ rfl
  have hsu : ∀ x ∈ fl [[b18], [b15], [b9], [b0_3], M], x ∈ fl [blk a0_25, [b18], [b15], [b9], [b0_3], M] := pick_sub [some 1, some 2, some 3, some 4, some 5] _ rfl
  replace hf3_2 := hf3_2.sub hsu
  replace hf7_1 := hf7_1.sub hsu
  replace hf13_1 := hf13_1.sub hsu
  replace hf25_1 := hf25_1.ro hsu (pick_out hms 0 rfl [some 1, some 2, some 3, some 4, some 5] [[b18], [b15], [b9], [b0_3], M] rfl rfl)
  replace hms := hpk
  replace hfr : FR w.heap.size [[b18], [b15], [b9], [b0_3]] := hfr.pick [some 1, some 2, some 3, some 4] _ rfl
  clear hpk hsu
  refine x_pure 3 [(28, .tuple #[.agg #[.int .i64 x24.1.1, .slice a0_25 (x24.1.2).length c0_25], .int .i64 x24.2]), (31, .agg #[.int .i64 x24.1.1, .slice a0_25 (x24.1.2).length c0_25]), (32, .int .i64 x24.2)] _ _ _ (by kernel_rfl) ?_
  refine x_alloc (z := .agg #[.int .i64 0, .slice none 0 0]) rfl rfl (by kernel_rfl) (fun b27 w27 hq27 hb27 he27 hz27 => ?_)
  replace hb27 : w27.heap[b27]? = some (.cells #[.int .i64 0, .slice none 0 0] 29 (0, 0)) := hb27
  refine ⟨.inl rfl, ?_⟩
  have hst := Stp.box (ls := [[b18], [b15], [b9], [b0_3], M]) he27 hq27
  replace hf3_1 := he27.box hf3_1 nn
  replace hf3_2 := hf3_2.step hst
  replace hf7_1 := hf7_1.step hst
  replace hb9 := he27.box hb9 nn
  replace hf13_1 := hf13_1.step hst
  replace hb15 := he27.box hb15 nn
  replace hb18 := he27.box hb18 nn
  replace hf25_1 := hf25_1.step hst
  replace hms := hms.box he27 hq27 hb27
  replace hfr := hfr.box hev.size hq27
  replace hev := hev.ext he27
  obtain ⟨w29, hr29, hb29, he29⟩ := store_boxagg 0 [.int .i64 x24.1.1, .slice a0_25 (x24.1.2).length c0_25] #[.int .i64 x24.1.1, .slice a0_25 (x24.1.2).length c0_25] tagg29 hb27 rfl rfl rfl
  refine x_store w29 (xv := .pointer (some ⟨b27, 0, none⟩)) (yv := .agg #[.int .i64 x24.1.1, .slice a0_25 (x24.1.2).length c0_25]) rfl rfl rfl rfl hr29 ?_
  refine ⟨.inl rfl, ?_⟩
  have hst := Stp.ev' (ls := [[b27], [b18], [b15], [b9], [b0_3], M]) he29 (mem_flat 0 rfl)
  replace hf3_1 := he29.box hf3_1 (hms.apart 4 0 rfl rfl rfl _ (List.mem_singleton.2 rfl))
  replace hf3_2 := hf3_2.step hst
  replace hf7_1 := hf7_1.step hst
  replace hb9 := he29.box hb9 (hms.apart 3 0 rfl rfl rfl _ (List.mem_singleton.2 rfl))
  replace hf13_1 := hf13_1.step hst
  replace hb15 := he29.box hb15 (hms.apart 2 0 rfl rfl rfl _ (List.mem_singleton.2 rfl))
  replace hb18 := he29.box hb18 (hms.apart 1 0 rfl rfl rfl _ (List.mem_singleton.2 rfl))
  replace hf25_1 := hf25_1.step hst
  replace hms := hms.ev he29
  replace hev := hev.then he29 (fun b hb => .inr (hfr.at 0 rfl b hb))
  replace hb27 := hb29
  refine x_pure 1 [(9, .int .i64 x24.2)] _ _ _ (by kernel_rfl) ?_
  refine x_end rfl (k_then ?_)
  refine c_norm [(5, .pointer (some ⟨b15, 0, none⟩)), (6, .int .i64 x12.2), (8, .pointer (some ⟨b27, 0, none⟩)), (9, .int .i64 x24.2)] ⟨rfl, rfl, rfl, rfl, trivial⟩ (fun J => ?_)
  refine c_seq ?_
  refine c_seq (c_plain ?_)
  refine x_pure 2 [(33, .int .i64 x12.2), (34, .bool (x12.2 != 0))] _ _ _ (by kernel_rfl) ?_
  refine x_end rfl (k_then ?_)
  refine c_cond (x12.2 != 0) rfl (fun hb => ?_) (fun hb => ?_)
  · replace h := ite_t hb h
    refine c_seq (c_plain ?_)
    refine x_pure 3 [(35, .int .i64 x12.2), (36, .bool (x12.2 == 15)), (37, .bool (x12.2 == 15))] _ _ _ (by kernel_rfl) ?_
    refine x_split 37 (x12.2 == 15) rfl (fun hb => ?_) (fun hb => ?_)
    · replace h := ite_t hb h
      obtain ⟨x31, hx, h⟩ := bind_some h
      have hcall := law13_sane_w _ w29 hx
      refine x_call 13 #[] #[] [] _ rfl rfl rfl rfl hcall ?_
      rintro v w32 ⟨rfl, he32⟩
      clear hcall hx
      refine ⟨.inl rfl, ?_⟩
      have hst := Stp.ext (ls := [[b27], [b18], [b15], [b9], [b0_3], M]) he32
      replace hf3_1 := he32.box hf3_1 nn
      replace hf3_2 := hf3_2.step hst
      replace hf7_1 := hf7_1.step hst
      replace hb9 := he32.box hb9 nn
      replace hf13_1 := hf13_1.step hst
      replace hb15 := he32.box hb15 nn
      replace hb18 := he32.box hb18 nn
      replace hf25_1 := hf25_1.step hst
      replace hb27 := he32.box hb27 nn
      replace hms := hms.ev he32
      replace hev := hev.ext he32
      refine x_pure 2 [(39, .bool x31), (2, .bool x31)] _ _ _ (by kernel_rfl) ?_
      refine x_end rfl (k_then ?_)
      refine c_ret ?_
      refine k_then_ret ?_
      refine r_ret (r_vals [.bool x31] ⟨rfl, trivial⟩ ?_)
      have hx := some_inj h
      subst hx
      have hmr : MS w32 [M] := hms.pick [some 5] _ rfl
      have hsu : ∀ x ∈ fl [M], x ∈ fl [[b27], [b18], [b15], [b9], [b0_3], M] := pick_sub [some 5] _ rfl
      exact ⟨rfl, hev⟩
    replace h := ite_f hb h
    refine x_pure 3 [(38, undef), (39, .bool false), (2, .bool false)] _ _ _ (by kernel_rfl) ?_
    refine x_end rfl (k_then ?_)
    refine c_ret ?_
    refine k_then_ret ?_
    refine r_ret (r_vals [.bool false] ⟨rfl, trivial⟩ ?_)
    have hx := some_inj h
    subst hx
    have hmr : MS w29 [M] := hms.pick [some 5] _ rfl
    have hsu : ∀ x ∈ fl [M], x ∈ fl [[b27], [b18], [b15], [b9], [b0_3], M] := pick_sub [some 5] _ rfl
    exact ⟨rfl, hev⟩
  replace h := ite_f hb h
  refine c_skip ?_
  refine k_then ?_
  refine c_seq ?_
  refine c_seq (c_plain ?_)
  refine x_pure 3 [(40, .int .i64 x24.2), (41, .bool (x24.2 != 0)), (42, .bool (x24.2 != 0))] _ _ _ (by kernel_rfl) ?_
  refine x_split 42 (x24.2 != 0) rfl (fun hb => ?_) (fun hb => ?_)
  · replace h := ite_t hb h
    refine x_pure 15 [(43, undef), (44, undef), (45, undef), (46, undef), (47, undef), (48, undef), (49, undef), (50, .bool true), (51, .bool true), (52, undef), (53, undef), (54, undef), (55, undef), (56, undef), (57, .bool true)] _ _ _ (by kernel_rfl) ?_
    refine x_end rfl (k_then ?_)
    refine c_norm [(5, .pointer (some ⟨b15, 0, none⟩)), (8, .pointer (some ⟨b27, 0, none⟩)), (57, .bool true)] ⟨rfl, rfl, rfl, trivial⟩ (fun J => ?_)
    refine c_true rfl ?_
    refine c_seq (c_plain ?_)
    refine x_pure 1 [(2, .bool false)] _ _ _ (by kernel_rfl) ?_
    refine x_end rfl (k_then ?_)
    refine c_ret ?_
    refine k_then_ret ?_
    refine r_ret (r_vals [.bool false] ⟨rfl, trivial⟩ ?_)
    have hx := some_inj h
    subst hx
    have hmr : MS w29 [M] := hms.pick [some 5] _ rfl
    have hsu : ∀ x ∈ fl [M], x ∈ fl [[b27], [b18], [b15], [b9], [b0_3], M] := pick_sub [some 5] _ rfl
    exact ⟨rfl, hev⟩
  replace h := ite_f hb h
  refine x_fieldAddr (xv := .pointer (some ⟨b15, 0, none⟩)) (.pointer (some ⟨b15, 1, none⟩)) rfl rfl rfl (reads_field tfld29_1 _ _) ?_
  refine x_load (xv := .pointer (some ⟨b15, 1, none⟩)) (.slice a0_13 (x12.1.2).length c0_13) rfl rfl rfl (reads_box tcell27 hb15 nn 1 _ rfl) ?_
  refine x_len (vs := [.slice a0_13 (x12.1.2).length c0_13]) (.int .i64 ((x12.1.2).length : Int)) rfl rfl rfl (reads_len tsl27 _ _ _ _ _) ?_
  refine x_fieldAddr (xv := .pointer (some ⟨b27, 0, none⟩)) (.pointer (some ⟨b27, 1, none⟩)) rfl rfl rfl (reads_field tfld29_1 _ _) ?_
  refine x_load (xv := .pointer (some ⟨b27, 1, none⟩)) (.slice a0_25 (x24.1.2).length c0_25) rfl rfl rfl (reads_box tcell27 hb27 nn 1 _ rfl) ?_
  refine x_len (vs := [.slice a0_25 (x24.1.2).length c0_25]) (.int .i64 ((x24.1.2).length : Int)) rfl rfl rfl (reads_len tsl27 _ _ _ _ _) ?_
  refine x_pure 3 [(49, .bool (((x12.1.2).length : Int) != ((x24.1.2).length : Int))), (50, .bool (((x12.1.2).length : Int) != ((x24.1.2).length : Int))), (51, .bool (((x12.1.2).length : Int) != ((x24.1.2).length : Int)))] _ _ _ (by kernel_rfl) ?_
  refine x_split 51 (((x12.1.2).length : Int) != ((x24.1.2).length : Int)) rfl (fun hb => ?_) (fun hb => ?_)
  · replace h := ite_t hb h
    refine x_pure 6 [(52, undef), (53, undef), (54, undef), (55, undef), (56, undef), (57, .bool true)] _ _ _ (by kernel_rfl) ?_
    refine x_end rfl (k_then ?_)
    refine c_norm [(5, .pointer (some ⟨b15, 0, none⟩)), (8, .pointer (some ⟨b27, 0, none⟩)), (57, .bool true)] ⟨rfl, rfl, rfl, trivial⟩ (fun J => ?_)
    refine c_true rfl ?_
    refine c_seq (c_plain ?_)
    refine x_pure 1 [(2, .bool false)] _ _ _ (by kernel_rfl) ?_
    refine x_end rfl (k_then ?_)
    refine c_ret ?_
    refine k_then_ret ?_
    refine r_ret (r_vals [.bool false] ⟨rfl, trivial⟩ ?_)
    have hx := some_inj h
    subst hx
    have hmr : MS w29 [M] := hms.pick [some 5] _ rfl
    have hsu : ∀ x ∈ fl [M], x ∈ fl [[b27], [b18], [b15], [b9], [b0_3], M] := pick_sub [some 5] _ rfl
    exact ⟨rfl, hev⟩
  replace h := ite_f hb h
  refine x_fieldAddr (xv := .pointer (some ⟨b27, 0, none⟩)) (.pointer (some ⟨b27, 0, none⟩)) rfl rfl rfl (reads_field tfld29_0 _ _) ?_
  refine x_load (xv := .pointer (some ⟨b27, 0, none⟩)) (.int .i64 x24.1.1) rfl rfl rfl (reads_box tcell3 hb27 nn 0 _ rfl) ?_
  refine x_fieldAddr (xv := .pointer (some ⟨b15, 0, none⟩)) (.pointer (some ⟨b15, 0, none⟩)) rfl rfl rfl (reads_field tfld29_0 _ _) ?_
  refine x_load (xv := .pointer (some ⟨b15, 0, none⟩)) (.int .i64 x12.1.1) rfl rfl rfl (reads_box tcell3 hb15 nn 0 _ rfl) ?_
  refine x_pure 2 [(56, .bool (decide (x24.1.1 > x12.1.1))), (57, .bool (decide (x24.1.1 > x12.1.1)))] _ _ _ (by kernel_rfl) ?_
  refine x_end rfl (k_then ?_)
  refine c_norm [(5, .pointer (some ⟨b15, 0, none⟩)), (8, .pointer (some ⟨b27, 0, none⟩)), (57, .bool (decide (x24.1.1 > x12.1.1)))] ⟨rfl, rfl, rfl, trivial⟩ (fun J => ?_)
  refine c_cond (decide (x24.1.1 > x12.1.1)) rfl (fun hb => ?_) (fun hb => ?_)
  · replace h := ite_t hb h
    refine c_seq (c_plain ?_)
    refine x_pure 1 [(2, .bool false)] _ _ _ (by kernel_rfl) ?_
    refine x_end rfl (k_then ?_)
    refine c_ret ?_
    refine k_then_ret ?_
    refine r_ret (r_vals [.bool false] ⟨rfl, trivial⟩ ?_)
    have hx := some_inj h
    subst hx
    have hmr : MS w29 [M] := hms.pick [some 5] _ rfl
    have hsu : ∀ x ∈ fl [M], x ∈ fl [[b27], [b18], [b15], [b9], [b0_3], M] := pick_sub [some 5] _ rfl
    exact ⟨rfl, hev⟩
  replace h := ite_f hb h
  refine c_skip ?_
  refine k_then ?_
  refine c_seq ?_
  refine c_seq (c_plain ?_)
  refine x_fieldAddr (xv := .pointer (some ⟨b15, 0, none⟩)) (.pointer (some ⟨b15, 1, none⟩)) rfl rfl rfl (reads_field tfld29_1 _ _) ?_
  refine x_load (xv := .pointer (some ⟨b15, 1, none⟩)) (.slice a0_13 (x12.1.2).length c0_13) rfl rfl rfl (reads_box tcell27 hb15 nn 1 _ rfl) ?_
  refine x_len (vs := [.slice a0_13 (x12.1.2).length c0_13]) (.int .i64 ((x12.1.2).length : Int)) rfl rfl rfl (reads_len tsl27 _ _ _ _ _) ?_
  refine x_pure 1 [(61, .int .i64 0)] _ _ _ (by kernel_rfl) ?_
  refine x_end rfl (k_then ?_)
  refine c_block ?_
  have hpk : MS w29 [[b15], [b27], M] := hms.pick [some 2, some 0, some 5] _ rfl
  have hsu : ∀ x ∈ fl [[b15], [b27], M], x ∈ fl [[b27], [b18], [b15], [b9], [b0_3], M] := pick_sub [some 2, some 0, some 5] _ rfl
  replace hf13_1 := hf13_1.sub hsu
  replace hf25_1 := hf25_1.sub hsu
  replace hms := hpk
  replace hfr : FR w.heap.size [[b15], [b27]] := hfr.pick [some 2, some 0] _ rfl
  clear hpk hsu
  obtain ⟨d34, hd34, h34⟩ := bind_some h
  obtain ⟨m34, hd34⟩ := loop_some hd34
  refine c_loop (loop_rule hmx (σ := Nat × Int) (fun s => match s with | (_, t61__s61_l34) => [(5, .pointer (some ⟨b15, 0, none⟩)), (8, .pointer (some ⟨b27, 0, none⟩)), (60, .int .i64 ((x12.1.2).length : Int)), (61, .int .i64 t61__s61_l34)]) (fun s w' => match s with | (m, t61__s61_l34) => loopN (law13_LeastcodeWeights_L34 x12 x24) m t61__s61_l34 = some d34 ∧ Ev [] w w' ∧ MS w' [[b15], [b27], M] ∧ FR w.heap.size [[b15], [b27]] ∧ SlR (eInt .i64) w' (fl [[b15], [b27], M]) a0_13 c0_13 x12.1.2 ∧ w'.heap[b15]? = some (.cells #[.int .i64 x12.1.1, .slice a0_13 (x12.1.2).length c0_13] 29 (0, 0)) ∧ SlR (eInt .i64) w' (fl [[b15], [b27], M]) a0_25 c0_25 x24.1.2 ∧ w'.heap[b27]? = some (.cells #[.int .i64 x24.1.1, .slice a0_25 (x24.1.2).length c0_25] 29 (0, 0))) (fun s => s.1) (m34, 0) ⟨rfl, rfl, rfl, rfl, trivial⟩ ⟨hd34, hev, hms, hfr, hf13_1, hb15, hf25_1, hb27⟩ ?_)
  rintro ⟨m34, t61__s61_l34⟩ J wl34 ⟨hn34, hev, hms, hfr, hf13_1, hb15, hf25_1, hb27⟩
  rcases m34 with _ | m34
  · exact (loopN_zero hn34).elim
  obtain ⟨t34, h, hn34⟩ := bind_some hn34
  refine c_seq (c_plain ?_)
  refine x_pure 1 [(62, .bool (decide (t61__s61_l34 < ((x12.1.2).length : Int))))] _ _ _ (by kernel_rfl) ?_
  refine x_end rfl (k_then ?_)
  refine c_norm [(5, .pointer (some ⟨b15, 0, none⟩)), (8, .pointer (some ⟨b27, 0, none⟩)), (60, .int .i64 ((x12.1.2).length : Int)), (61, .int .i64 t61__s61_l34), (62, .bool (decide (t61__s61_l34 < ((x12.1.2).length : Int))))] ⟨rfl, rfl, rfl, rfl, rfl, trivial⟩ (fun J => ?_)
  refine c_seq ?_
  refine c_cond (decide (t61__s61_l34 < ((x12.1.2).length : Int))) rfl (fun hb => ?_) (fun hb => ?_)
  · replace h := ite_t hb h
    refine c_skip ?_
    refine k_then ?_
    refine c_seq ?_
    refine c_block ?_
    refine c_seq (c_plain ?_)
    refine x_pure 2 [(63, .int .i64 t61__s61_l34), (10, .int .i64 t61__s61_l34)] _ _ _ (by kernel_rfl) ?_
    refine x_end rfl (k_then ?_)
    refine c_seq ?_
    refine c_drawn [] [(0, false), (1, false), (2, false), (3, false), (4, false), (5, false), (6, false), (7, false), (8, false), (9, false), (10, false)] _ (by kernel_rfl) rfl ?_
    have hst := Stp.ext (ls := [[b15], [b27], M]) (Ev.drew wl34)
    replace hb15 := (Ev.drew wl34).box hb15 nn
    replace hf13_1 := hf13_1.step hst
    replace hb27 := (Ev.drew wl34).box hb27 nn
    replace hf25_1 := hf25_1.step hst
    replace hms := hms.ev (Ev.drew wl34)
    replace hev := hev.ext (Ev.drew wl34)
    refine x_fieldAddr (xv := .pointer (some ⟨b27, 0, none⟩)) (.pointer (some ⟨b27, 1, none⟩)) rfl rfl rfl (reads_field tfld29_1 _ _) ?_
    refine x_load (xv := .pointer (some ⟨b27, 1, none⟩)) (.slice a0_25 (x24.1.2).length c0_25) rfl rfl rfl (reads_box tcell27 hb27 nn 1 _ rfl) ?_
    refine x_pure 1 [(66, .int .i64 t61__s61_l34)] _ _ _ (by kernel_rfl) ?_
    obtain ⟨x36, hx36, h⟩ := bind_some h
    obtain ⟨ad36, cs36, hr36, hc36, hR⟩ := reads_index (Mo := []) tsl27 hf25_1 hx36
    obtain rfl := hR
    refine x_indexAddr (xv := .slice a0_25 (x24.1.2).length c0_25) (yv := .int .i64 t61__s61_l34) (.pointer (some ad36)) rfl rfl rfl rfl hr36 ?_
    refine x_load (xv := .pointer (some ad36)) (.int .i64 x36) rfl rfl rfl (reads_cell0 tcell3 hc36 (fun _ h => by cases h)) ?_
    refine x_fieldAddr (xv := .pointer (some ⟨b15, 0, none⟩)) (.pointer (some ⟨b15, 1, none⟩)) rfl rfl rfl (reads_field tfld29_1 _ _) ?_
    refine x_load (xv := .pointer (some ⟨b15, 1, none⟩)) (.slice a0_13 (x12.1.2).length c0_13) rfl rfl rfl (reads_box tcell27 hb15 nn 1 _ rfl) ?_
    refine x_pure 1 [(71, .int .i64 t61__s61_l34)] _ _ _ (by kernel_rfl) ?_
    obtain ⟨x38, hx38, h⟩ := bind_some h
    obtain ⟨ad38, cs38, hr38, hc38, hR⟩ := reads_index (Mo := []) tsl27 hf13_1 hx38
    obtain rfl := hR
    refine x_indexAddr (xv := .slice a0_13 (x12.1.2).length c0_13) (yv := .int .i64 t61__s61_l34) (.pointer (some ad38)) rfl rfl rfl rfl hr38 ?_
    refine x_load (xv := .pointer (some ad38)) (.int .i64 x38) rfl rfl rfl (reads_cell0 tcell3 hc38 (fun _ h => by cases h)) ?_
    refine x_pure 1 [(74, .bool (decide (x36 > x38)))] _ _ _ (by kernel_rfl) ?_
    refine x_end rfl (k_then ?_)
    refine c_norm [(5, .pointer (some ⟨b15, 0, none⟩)), (8, .pointer (some ⟨b27, 0, none⟩)), (60, .int .i64 ((x12.1.2).length : Int)), (61, .int .i64 t61__s61_l34), (74, .bool (decide (x36 > x38)))] ⟨rfl, rfl, rfl, rfl, rfl, trivial⟩ (fun J => ?_)
    refine c_cond (decide (x36 > x38)) rfl (fun hb => ?_) (fun hb => ?_)
    · replace h := ite_t hb h
      refine c_seq (c_plain ?_)
      refine x_pure 1 [(2, .bool false)] _ _ _ (by kernel_rfl) ?_
      refine x_end rfl (k_then ?_)
      refine c_ret ?_
      refine k_block_ret ?_
      refine k_then_ret ?_
      have hx := some_inj h
      subst hx
      have hy := some_inj hn34
      subst hy
      replace h := h34
      refine k_then_ret ?_
      refine k_block_ret ?_
      refine k_then_ret ?_
      refine r_ret (r_vals [.bool false] ⟨rfl, trivial⟩ ?_)
      have hx := some_inj h
      subst hx
      have hmr : MS (wl34).drew [M] := hms.pick [some 2] _ rfl
      have hsu : ∀ x ∈ fl [M], x ∈ fl [[b15], [b27], M] := pick_sub [some 2] _ rfl
      exact ⟨rfl, hev⟩
    replace h := ite_f hb h
    refine c_skip ?_
    refine k_block ?_
    refine k_then ?_
    refine c_plain ?_
    refine x_pure 2 [(75, .int .i64 (IntKind.i64.wrap (t61__s61_l34 + 1))), (61, .int .i64 (IntKind.i64.wrap (t61__s61_l34 + 1)))] _ _ _ (by kernel_rfl) ?_
    refine x_end rfl ?_
    have hx := some_inj h
    subst hx
    exact k_then ⟨(m34, IntKind.i64.wrap (t61__s61_l34 + 1)), ⟨rfl, rfl, rfl, rfl, trivial⟩, ⟨hn34, hev, hms, hfr, hf13_1, hb15, hf25_1, hb27⟩, Nat.lt_succ_self _⟩
  replace h := ite_f hb h
  refine c_exit ?_
  refine k_then_exit ?_
  have hx := some_inj h
  subst hx
  have hy := some_inj hn34
  subst hy
  replace h := h34
  refine k_then_exit ?_
  refine k_block_in ?_
  refine k_then ?_
  refine c_norm [] trivial (fun J => ?_)
  refine c_seq (c_plain ?_)
  obtain ⟨x40, hx, h⟩ := bind_some h
  have hcall := law13_sane_w _ wl34 hx
  refine x_call 13 #[] #[] [] _ rfl rfl rfl rfl hcall ?_
  rintro v w41 ⟨rfl, he41⟩
  clear hcall hx
  refine ⟨.inl rfl, ?_⟩
  have hst := Stp.ext (ls := [[b15], [b27], M]) he41
  replace hb15 := he41.box hb15 nn
  replace hf13_1 := hf13_1.step hst
  replace hb27 := he41.box hb27 nn
  replace hf25_1 := hf25_1.step hst
  replace hms := hms.ev he41
  replace hev := hev.ext he41
  refine x_pure 1 [(2, .bool x40)] _ _ _ (by kernel_rfl) ?_
  refine x_end rfl (k_then ?_)
  refine c_ret ?_
  refine r_ret (r_vals [.bool x40] ⟨rfl, trivial⟩ ?_)
  have hx := some_inj h
  subst hx
  have hmr : MS w41 [M] := hms.pick [some 2] _ rfl
  have hsu : ∀ x ∈ fl [M], x ∈ fl [[b15], [b27], M] := pick_sub [some 2] _ rfl
  exact ⟨rfl, hev⟩
end Go.Proofs.Ytgdaanhiagoonaa
