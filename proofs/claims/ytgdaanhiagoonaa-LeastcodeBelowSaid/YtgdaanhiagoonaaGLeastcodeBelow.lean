/- Walks, printed by program: each function returns what the partial function of the same name returns. Conditions: those of each theorem. -/
import Derived.Test.YtgdaanhiagoonaaGT
import Derived.Test.YtgdaanhiagoonaaGgen
import Derived.Test.YtgdaanhiagoonaaGlaw13sane
import Derived.Test.YtgdaanhiagoonaaGlaw13sorts
import Derived.Test.YtgdaanhiagoonaaGleastcode
import Derived.Test.YtgdaanhiagoonaaGr11
import Derived.Test.YtgdaanhiagoonaaGr12
set_option linter.unusedVariables false
set_option linter.unusedSimpArgs false
set_option maxRecDepth 4000
namespace Go.Proofs.Ytgdaanhiagoonaa
open Go Go.V Go.Proofs
def law13_LeastcodeBelow_J32 (d23_l27 : List Int) (t46__s46_l27 : Int) (e4_j32_1 : Int) (n_s10_j32 : Int) (f_s11_j32 : Int) : Option (Step (Int × (List Int) × Int) (Bool ⊕ (Int × (List Int)))) :=
(if (f_s11_j32 != 0) = true then
((law13_sane).bind fun x35 =>
some (.done (.inl x35)))
else
((idx d23_l27 t46__s46_l27).bind fun x37 =>
some (.next (e4_j32_1, (d23_l27.set (Int.toNat t46__s46_l27) n_s10_j32), IntKind.i64.wrap (t46__s46_l27 + 1)))))

def law13_LeastcodeBelow_L27 (x2 : ((List Int) × Int)) (x6 : ((List (Int × Int × Int × Int)) × Int) × Int) (d23_l25 : List Int) (b_s8_l25 : Int) (s : Int × (List Int) × Int) : Option (Step (Int × (List Int) × Int) (Bool ⊕ (Int × (List Int)))) :=
match s with
| (e4_l27_1, d23_l27, t46__s46_l27) =>
(if (decide (t46__s46_l27 < ((d23_l25).length : Int))) = true then
((idx x6.1.1 t46__s46_l27).bind fun x30 =>
(if (x30.2.1 != b_s8_l25) = true then
some (.next (e4_l27_1, d23_l27, IntKind.i64.wrap (t46__s46_l27 + 1)))
else
((idx x6.1.1 t46__s46_l27).bind fun x33 =>
((r11_Base x6.1.1 x6.1.2 d23_l27 t46__s46_l27).bind fun x35 =>
((gen_Maker_Pick x2.1 e4_l27_1 ([0, 0, 1, 3])).bind fun x39 =>
((r12_Next (IntKind.i64.wrap (x35 + x39.1)) x33.2.2.1 x6.1.2).bind fun x41 =>
law13_LeastcodeBelow_J32 d23_l27 t46__s46_l27 x39.2 x41.1 x41.2))))))
else
some (.done (.inr (e4_l27_1, d23_l27))))

def law13_LeastcodeBelow_L41 (x12 : (Int × (List Int)) × Int) (d23_x2501 : List Int) (s : Int) : Option (Step Int (Unit ⊕ Unit)) :=
match s with
| t87__s87_l41 =>
(if (decide (t87__s87_l41 < ((d23_x2501).length : Int))) = true then
((idx x12.1.2 t87__s87_l41).bind fun x43 =>
((idx d23_x2501 t87__s87_l41).bind fun x45 =>
(if (decide (x43 > x45)) = true then
some (.done (.inl ()))
else
some (.next (IntKind.i64.wrap (t87__s87_l41 + 1))))))
else
some (.done (.inr ())))

def law13_LeastcodeBelow_L25 (x2 : ((List Int) × Int)) (x6 : ((List (Int × Int × Int × Int)) × Int) × Int) (s : Int × (List Int) × Int) : Option (Step (Int × (List Int) × Int) (Bool ⊕ (List Int))) :=
match s with
| (e4_l25_1, d23_l25, b_s8_l25) =>
(if (decide (b_s8_l25 < 32)) = true then
((loop (law13_LeastcodeBelow_L27 x2 x6 d23_l25 b_s8_l25) (e4_l25_1, d23_l25, 0)).bind fun d => match d with
| (.inl t2__s2_x2700) => some (.done (.inl t2__s2_x2700))
| (.inr (e4_x2701_1, d23_x2701)) => some (.next (e4_x2701_1, d23_x2701, IntKind.i64.wrap (b_s8_l25 + 1))))
else
some (.done (.inr d23_l25)))

def law13_LeastcodeBelow (p0 : List Int) : Option Bool :=
((gen_New p0).bind fun x2 =>
((gen_Maker_Job x2.1 x2.2 12).bind fun x6 =>
((leastcode_Least x6.1.1 x6.1.2).bind fun x12 =>
(if (x12.2 != 0) = true then
(if (x12.2 == 15) = true then
((law13_sane).bind fun x19 =>
some x19)
else
some false)
else
(if (((x12.1.2).length : Int) != ((x6.1.1).length : Int)) = true then
some false
else
(if (0 : Int) ≤ ((x6.1.1).length : Int) ∧ (((x6.1.1).length : Int) : Int) ≤ 4294967296 then
((loop (law13_LeastcodeBelow_L25 x2 x6) (x6.2, (List.replicate (Int.toNat ((x6.1.1).length : Int)) 0 : List Int), 0)).bind fun d => match d with
| (.inl t2__s2_x2500) => some t2__s2_x2500
| (.inr d23_x2501) => ((loop (law13_LeastcodeBelow_L41 x12 d23_x2501) 0).bind fun d => match d with
| (.inl _) => some false
| (.inr _) => ((law13_sorts x6.1.1 x6.1.2 d23_x2501).bind fun x47 =>
(if x47 = true then
((law13_sane).bind fun x49 =>
some x49)
else
some false))))
else none))))))

theorem law13_LeastcodeBelow_w (a_p0 : Option Addr) (c_p0 : Nat) (p0 : List Int) (r : Bool) (w : World) (M : List Nat) (hms : MS w [M]) (hs_p0 : SlR (eInt .i64) w (fl [M]) a_p0 c_p0 p0) (h : law13_LeastcodeBelow p0 = some r) : CallVC Try.prog 7 [.slice a_p0 (p0).length c_p0] w fun v w' => v = .bool r ∧ Ev [] w w' := by
  refine calls_vc hmx Try.func7 (by kernel_rfl) rfl (rs := [.tmp 2]) rfl (by kernel_rfl) (args := [.slice a_p0 (p0).length c_p0]) rfl ?_
  have hev : Ev [] w w := Ev.refl _ _
  have hfr : FR w.heap.size [] := FR.nil _
  refine c_seq (c_plain ?_)
  refine x_pure 1 [(2, .bool false)] _ _ _ (by kernel_rfl) ?_
  refine x_end rfl (k_then ?_)
  refine c_seq (c_plain ?_)
  refine x_pure 1 [(13, .slice a_p0 (p0).length c_p0)] _ _ _ (by kernel_rfl) ?_
  obtain ⟨x2, hx, h⟩ := bind_some h
  have hpk : MS w ([] ++ [M]) := hms.pick [some 0] _ rfl
  have hsb0 : ∀ x ∈ fl ([] ++ [M]), x ∈ fl [M] := pick_sub [some 0] _ rfl
  have hsb : ∀ x ∈ fl ([] ++ [(fl [M])]), x ∈ fl [M] := fun x hx => hsb0 x (fl_unfold x hx)
  have hcall := gen_New_w a_p0 c_p0 p0 _ w (fl [M]) (MS.fold (P := []) hpk) (hs_p0.sub hsb) hx
  refine x_call 14 #[] #[] [.slice a_p0 (p0).length c_p0] _ rfl rfl rfl rfl hcall ?_
  rintro v w3 ⟨b0_3, a1_3, c1_3, rfl, he3, hmn3, hfn3, hf3_1, hf3_2⟩
  clear hcall hx
  refine ⟨.inl rfl, ?_⟩
  have hpk2 : MS w ([] ++ [M]) := hms.pick [some 0] _ rfl
  have hsb2 : ∀ x ∈ fl ([] ++ [M]), x ∈ fl [M] := pick_sub [some 0] _ rfl
  have hst0 := Stp.call (LS := [M]) (res := [[b0_3]]) (par := []) (R := [M]) he3 (fun b hb => hsb2 b (fl_left' (P := []) b hb)) hfn3 (NP.init _ _) (fun x hx => hsb2 x (fl_right' (P := []) x hx))
  have hsn : ∀ x ∈ fl [[b0_3], M], x ∈ fl ([[b0_3]] ++ ([] ++ [M])) := pick_sub [some 0, some 1] _ rfl
  have hst := hst0.res hsn
  replace hs_p0 := hs_p0.step hst
  replace hms : MS w3 [[b0_3], M] := (MS.call (P := []) (R := [M]) (res := [[b0_3]]) (par := []) hpk2 he3 hmn3 hfn3 (NP.init _ _)).pick [some 0, some 1] _ rfl
  have hfr2 : FR w.heap.size [[b0_3]] := (FR.cons (fun b hb => Nat.le_trans hev.size (hfn3.at 0 rfl b hb)) (FR.nil _))
  replace hev := hev.ext he3
  replace hfr := hfr2
  clear hfr2
  have hsp : ∀ x ∈ fl [[b0_3], M], x ∈ fl ([[b0_3]] ++ ([] ++ [(fl [M])])) := fun x hx => fl_tot (res := [[b0_3]]) (par := []) (R := [M]) x (hsn x hx)
  replace hf3_2 := hf3_2.sub hsp
  clear hpk hsb hsb0 hpk2 hsb2 hst0 hsn hst
  refine x_pure 1 [(3, .pointer (some ⟨b0_3, 0, none⟩))] _ _ _ (by kernel_rfl) ?_
  refine x_end rfl (k_then ?_)
  refine c_seq (c_plain ?_)
  refine x_pure 1 [(15, .pointer (some ⟨b0_3, 0, none⟩))] _ _ _ (by kernel_rfl) ?_
  obtain ⟨x6, hx, h⟩ := bind_some h
  have hpk : MS w3 ([[b0_3]] ++ [M]) := hms.pick [some 0, some 1] _ rfl
  have hsb0 : ∀ x ∈ fl ([[b0_3]] ++ [M]), x ∈ fl [[b0_3], M] := pick_sub [some 0, some 1] _ rfl
  have hsb : ∀ x ∈ fl ([[b0_3]] ++ [(fl [M])]), x ∈ fl [[b0_3], M] := fun x hx => hsb0 x (fl_unfold x hx)
  have hcall := gen_Maker_Job_w b0_3 a1_3 c1_3 x2.1 x2.2 12 _ w3 (fl [M]) (hpk.fold (P := [[b0_3]])) (hf3_2.sub hsb) hf3_1 hx
  refine x_call 15 #[] #[] [.pointer (some ⟨b0_3, 0, none⟩), .int .i64 12] _ rfl rfl rfl rfl hcall ?_
  rintro v w7 ⟨a0_7, c0_7, rfl, he7, hp7_0, hmn7, hfn7, hf7_1⟩
  clear hcall hx
  refine ⟨.inl rfl, ?_⟩
  have hpk2 : MS w3 ([[b0_3]] ++ [M]) := hms.pick [some 0, some 1] _ rfl
  have hsb2 : ∀ x ∈ fl ([[b0_3]] ++ [M]), x ∈ fl [[b0_3], M] := pick_sub [some 0, some 1] _ rfl
  have hst0 := Stp.call (LS := [[b0_3], M]) (res := [blk a0_7]) (par := [[b0_3]]) (R := [M]) he7 (fun b hb => hsb2 b (fl_left' (P := [[b0_3]]) b hb)) hfn7 (NP.init _ _) (fun x hx => hsb2 x (fl_right' (P := [[b0_3]]) x hx))
  have hsn : ∀ x ∈ fl [blk a0_7, [b0_3], M], x ∈ fl ([blk a0_7] ++ ([[b0_3]] ++ [M])) := pick_sub [some 0, some 1, some 2] _ rfl
  have hst := hst0.res hsn
  replace hf3_2 := hf3_2.step hst
  replace hms : MS w7 [blk a0_7, [b0_3], M] := (MS.call (P := [[b0_3]]) (R := [M]) (res := [blk a0_7]) (par := [[b0_3]]) hpk2 he7 hmn7 hfn7 (NP.init _ _)).pick [some 0, some 1, some 2] _ rfl
  have hPf : ∀ b ∈ fl [[b0_3]], w.heap.size ≤ b := FR.mem (ls := [[b0_3]]) (hfr.pick [some 0] _ rfl)
  have hfr2 : FR w.heap.size [blk a0_7, [b0_3]] := (FR.cons (fun b hb => Nat.le_trans hev.size (hfn7.at 0 rfl b hb)) (FR.cons (hfr.at 0 rfl) (FR.nil _)))
  replace hev := hev.then he7 (fun b hb => .inr (hPf b hb))
  replace hfr := hfr2
  clear hfr2
  replace hf3_1 := hp7_0
  replace hf7_1 := OwnS.plain (M' := fl [blk a0_7, [b0_3], M]) (plain_prod (plain_int _) (plain_prod (plain_int _) (plain_prod (plain_int _) (plain_int _)))) hf7_1
  clear hpk hsb hsb0 hpk2 hsb2 hst0 hsn hst
  have hpk : MS w7 [[b0_3], M] := hms.pick [some 1, some 2] _ rfl
  have hsu : ∀ x ∈ fl [[b0_3], M], x ∈ fl [blk a0_7, [b0_3], M] := pick_sub [some 1, some 2] _ rfl
  replace hf3_2 := hf3_2.sub hsu
  replace hf7_1 := hf7_1.ro hsu (pick_out hms 0 rfl [some 1, some 2] [[b0_3], M] rfl rfl)
  replace hms := hpk
  replace hfr : FR w.heap.size [[b0_3]] := hfr.pick [some 1] _ rfl
  clear hpk hsu
  refine x_alloc (z := .agg #[.slice none 0 0, .int .i64 0]) rfl rfl (by kernel_rfl) (fun b9 w9 hq9 hb9 he9 hz9 => ?_)
  replace hb9 : w9.heap[b9]? = some (.cells #[.slice none 0 0, .int .i64 0] 24 (0, 0)) := hb9
  refine ⟨.inl rfl, ?_⟩
  have hst := Stp.box (ls := [[b0_3], M]) he9 hq9
  replace hf3_1 := he9.box hf3_1 nn
  replace hf3_2 := hf3_2.step hst
  replace hf7_1 := hf7_1.step hst
  replace hms := hms.box he9 hq9 hb9
  replace hfr := hfr.box hev.size hq9
  replace hev := hev.ext he9
  obtain ⟨w11, hr11, hb11, he11⟩ := store_boxagg 0 [.slice a0_7 (x6.1.1).length c0_7, .int .i64 x6.1.2] #[.slice a0_7 (x6.1.1).length c0_7, .int .i64 x6.1.2] tagg24 hb9 rfl rfl rfl
  refine x_store w11 (xv := .pointer (some ⟨b9, 0, none⟩)) (yv := .agg #[.slice a0_7 (x6.1.1).length c0_7, .int .i64 x6.1.2]) rfl rfl rfl rfl hr11 ?_
  refine ⟨.inl rfl, ?_⟩
  have hst := Stp.ev' (ls := [[b9], [b0_3], M]) he11 (mem_flat 0 rfl)
  replace hf3_1 := he11.box hf3_1 (hms.apart 1 0 rfl rfl rfl _ (List.mem_singleton.2 rfl))
  replace hf3_2 := hf3_2.step hst
  replace hf7_1 := hf7_1.step hst
  replace hms := hms.ev he11
  replace hev := hev.then he11 (fun b hb => .inr (hfr.at 0 rfl b hb))
  replace hb9 := hb11
  refine x_end rfl (k_then ?_)
  refine c_seq (c_plain ?_)
  refine x_load (xv := .pointer (some ⟨b9, 0, none⟩)) (.agg #[.slice a0_7 (x6.1.1).length c0_7, .int .i64 x6.1.2]) rfl rfl rfl (reads_boxagg 0 [.slice a0_7 (x6.1.1).length c0_7, .int .i64 x6.1.2] tagg24 hb9 nn rfl) ?_
  obtain ⟨x12, hx, h⟩ := bind_some h
  have hpk : MS w11 ([] ++ [[b9], [b0_3], M]) := hms.pick [some 0, some 1, some 2] _ rfl
  have hsb0 : ∀ x ∈ fl ([] ++ [[b9], [b0_3], M]), x ∈ fl [[b9], [b0_3], M] := pick_sub [some 0, some 1, some 2] _ rfl
  have hsb : ∀ x ∈ fl ([] ++ [(fl [[b9], [b0_3], M])]), x ∈ fl [[b9], [b0_3], M] := fun x hx => hsb0 x (fl_unfold x hx)
  have hcall := leastcode_Least_w a0_7 c0_7 x6.1.1 x6.1.2 _ w11 (fl [[b9], [b0_3], M]) (MS.fold (P := []) hpk) (hf7_1.sub hsb) hx
  refine x_call 12 #[] #[] [.agg #[.slice a0_7 (x6.1.1).length c0_7, .int .i64 x6.1.2]] _ rfl rfl rfl rfl hcall ?_
  rintro v w13 ⟨a0_13, c0_13, rfl, he13, hmn13, hfn13, hf13_1⟩
  clear hcall hx
  refine ⟨.inl rfl, ?_⟩
  have hpk2 : MS w11 ([] ++ [[b9], [b0_3], M]) := hms.pick [some 0, some 1, some 2] _ rfl
  have hsb2 : ∀ x ∈ fl ([] ++ [[b9], [b0_3], M]), x ∈ fl [[b9], [b0_3], M] := pick_sub [some 0, some 1, some 2] _ rfl
  have hst0 := Stp.call (LS := [[b9], [b0_3], M]) (res := [blk a0_13]) (par := []) (R := [[b9], [b0_3], M]) he13 (fun b hb => hsb2 b (fl_left' (P := []) b hb)) hfn13 (NP.init _ _) (fun x hx => hsb2 x (fl_right' (P := []) x hx))
  have hsn : ∀ x ∈ fl [blk a0_13, [b9], [b0_3], M], x ∈ fl ([blk a0_13] ++ ([] ++ [[b9], [b0_3], M])) := pick_sub [some 0, some 1, some 2, some 3] _ rfl
  have hst := hst0.res hsn
  replace hf3_1 := he13.box hf3_1 ((MS.outs (P := []) hpk2 1 rfl) _ (List.mem_singleton.2 rfl))
  replace hf3_2 := hf3_2.step hst
  replace hf7_1 := hf7_1.step hst
  replace hb9 := he13.box hb9 ((MS.outs (P := []) hpk2 0 rfl) _ (List.mem_singleton.2 rfl))
  replace hms : MS w13 [blk a0_13, [b9], [b0_3], M] := (MS.call (P := []) (R := [[b9], [b0_3], M]) (res := [blk a0_13]) (par := []) hpk2 he13 hmn13 hfn13 (NP.init _ _)).pick [some 0, some 1, some 2, some 3] _ rfl
  have hfr2 : FR w.heap.size [blk a0_13, [b9], [b0_3]] := (FR.cons (fun b hb => Nat.le_trans hev.size (hfn13.at 0 rfl b hb)) (FR.cons (hfr.at 0 rfl) (FR.cons (hfr.at 1 rfl) (FR.nil _))))
  replace hev := hev.ext he13
  replace hfr := hfr2
  clear hfr2
  replace hf13_1 := OwnS.plain (M' := fl [blk a0_13, [b9], [b0_3], M]) (plain_int _) hf13_1
  clear hpk hsb hsb0 hpk2 hsb2 hst0 hsn hst
  have hpk : MS w13 [[b9], [b0_3], M] := hms.pick [some 1, some 2, some 3] _ rfl
  have hsu : ∀ x ∈ fl [[b9], [b0_3], M], x ∈ fl [blk a0_13, [b9], [b0_3], M] := pick_sub [some 1, some 2, some 3] _ rfl
  replace hf3_2 := hf3_2.sub hsu
  replace hf7_1 := hf7_1.sub hsu
  replace hf13_1 := hf13_1.ro hsu (pick_out hms 0 rfl [some 1, some 2, some 3] [[b9], [b0_3], M] rfl rfl)
  replace hms := hpk
  replace hfr : FR w.heap.size [[b9], [b0_3]] := hfr.pick [some 1, some 2] _ rfl
  clear hpk hsu
  refine x_pure 3 [(17, .tuple #[.agg #[.int .i64 x12.1.1, .slice a0_13 (x12.1.2).length c0_13], .int .i64 x12.2]), (20, .agg #[.int .i64 x12.1.1, .slice a0_13 (x12.1.2).length c0_13]), (21, .int .i64 x12.2)] _ _ _ (by kernel_rfl) ?_
  refine x_alloc (z := .agg #[.int .i64 0, .slice none 0 0]) rfl rfl (by kernel_rfl) (fun b15 w15 hq15 hb15 he15 hz15 => ?_)
  replace hb15 : w15.heap[b15]? = some (.cells #[.int .i64 0, .slice none 0 0] 29 (0, 0)) := hb15
  refine ⟨.inl rfl, ?_⟩
  have hst := Stp.box (ls := [[b9], [b0_3], M]) he15 hq15
  replace hf3_1 := he15.box hf3_1 nn
  replace hf3_2 := hf3_2.step hst
  replace hf7_1 := hf7_1.step hst
  replace hb9 := he15.box hb9 nn
  replace hf13_1 := hf13_1.step hst
  replace hms := hms.box he15 hq15 hb15
  replace hfr := hfr.box hev.size hq15
  replace hev := hev.ext he15
  obtain ⟨w17, hr17, hb17, he17⟩ := store_boxagg 0 [.int .i64 x12.1.1, .slice a0_13 (x12.1.2).length c0_13] #[.int .i64 x12.1.1, .slice a0_13 (x12.1.2).length c0_13] tagg29 hb15 rfl rfl rfl
  refine x_store w17 (xv := .pointer (some ⟨b15, 0, none⟩)) (yv := .agg #[.int .i64 x12.1.1, .slice a0_13 (x12.1.2).length c0_13]) rfl rfl rfl rfl hr17 ?_
  refine ⟨.inl rfl, ?_⟩
  have hst := Stp.ev' (ls := [[b15], [b9], [b0_3], M]) he17 (mem_flat 0 rfl)
  replace hf3_1 := he17.box hf3_1 (hms.apart 2 0 rfl rfl rfl _ (List.mem_singleton.2 rfl))
  replace hf3_2 := hf3_2.step hst
  replace hf7_1 := hf7_1.step hst
  replace hb9 := he17.box hb9 (hms.apart 1 0 rfl rfl rfl _ (List.mem_singleton.2 rfl))
  replace hf13_1 := hf13_1.step hst
  replace hms := hms.ev he17
  replace hev := hev.then he17 (fun b hb => .inr (hfr.at 0 rfl b hb))
  replace hb15 := hb17
  refine x_pure 1 [(6, .int .i64 x12.2)] _ _ _ (by kernel_rfl) ?_
  refine x_end rfl (k_then ?_)
  refine c_norm [(3, .pointer (some ⟨b0_3, 0, none⟩)), (4, .pointer (some ⟨b9, 0, none⟩)), (5, .pointer (some ⟨b15, 0, none⟩)), (6, .int .i64 x12.2)] ⟨rfl, rfl, rfl, rfl, trivial⟩ (fun J => ?_)
  refine c_seq ?_
  refine c_seq (c_plain ?_)
  refine x_pure 2 [(22, .int .i64 x12.2), (23, .bool (x12.2 != 0))] _ _ _ (by kernel_rfl) ?_
  refine x_end rfl (k_then ?_)
  refine c_cond (x12.2 != 0) rfl (fun hb => ?_) (fun hb => ?_)
  · replace h := ite_t hb h
    refine c_seq (c_plain ?_)
    refine x_pure 3 [(24, .int .i64 x12.2), (25, .bool (x12.2 == 15)), (26, .bool (x12.2 == 15))] _ _ _ (by kernel_rfl) ?_
    refine x_split 26 (x12.2 == 15) rfl (fun hb => ?_) (fun hb => ?_)
    · replace h := ite_t hb h
      obtain ⟨x19, hx, h⟩ := bind_some h
      have hcall := law13_sane_w _ w17 hx
      refine x_call 13 #[] #[] [] _ rfl rfl rfl rfl hcall ?_
      rintro v w20 ⟨rfl, he20⟩
      clear hcall hx
      refine ⟨.inl rfl, ?_⟩
      have hst := Stp.ext (ls := [[b15], [b9], [b0_3], M]) he20
      replace hf3_1 := he20.box hf3_1 nn
      replace hf3_2 := hf3_2.step hst
      replace hf7_1 := hf7_1.step hst
      replace hb9 := he20.box hb9 nn
      replace hf13_1 := hf13_1.step hst
      replace hb15 := he20.box hb15 nn
      replace hms := hms.ev he20
      replace hev := hev.ext he20
      refine x_pure 2 [(28, .bool x19), (2, .bool x19)] _ _ _ (by kernel_rfl) ?_
      refine x_end rfl (k_then ?_)
      refine c_ret ?_
      refine k_then_ret ?_
      refine r_ret (r_vals [.bool x19] ⟨rfl, trivial⟩ ?_)
      have hx := some_inj h
      subst hx
      have hmr : MS w20 [M] := hms.pick [some 3] _ rfl
      have hsu : ∀ x ∈ fl [M], x ∈ fl [[b15], [b9], [b0_3], M] := pick_sub [some 3] _ rfl
      exact ⟨rfl, hev⟩
    replace h := ite_f hb h
    refine x_pure 3 [(27, undef), (28, .bool false), (2, .bool false)] _ _ _ (by kernel_rfl) ?_
    refine x_end rfl (k_then ?_)
    refine c_ret ?_
    refine k_then_ret ?_
    refine r_ret (r_vals [.bool false] ⟨rfl, trivial⟩ ?_)
    have hx := some_inj h
    subst hx
    have hmr : MS w17 [M] := hms.pick [some 3] _ rfl
    have hsu : ∀ x ∈ fl [M], x ∈ fl [[b15], [b9], [b0_3], M] := pick_sub [some 3] _ rfl
    exact ⟨rfl, hev⟩
  replace h := ite_f hb h
  refine c_skip ?_
  refine k_then ?_
  refine c_seq ?_
  refine c_seq (c_plain ?_)
  refine x_fieldAddr (xv := .pointer (some ⟨b15, 0, none⟩)) (.pointer (some ⟨b15, 1, none⟩)) rfl rfl rfl (reads_field tfld29_1 _ _) ?_
  refine x_load (xv := .pointer (some ⟨b15, 1, none⟩)) (.slice a0_13 (x12.1.2).length c0_13) rfl rfl rfl (reads_box tcell27 hb15 nn 1 _ rfl) ?_
  refine x_len (vs := [.slice a0_13 (x12.1.2).length c0_13]) (.int .i64 ((x12.1.2).length : Int)) rfl rfl rfl (reads_len tsl27 _ _ _ _ _) ?_
  refine x_fieldAddr (xv := .pointer (some ⟨b9, 0, none⟩)) (.pointer (some ⟨b9, 0, none⟩)) rfl rfl rfl (reads_field tfld24_0 _ _) ?_
  refine x_load (xv := .pointer (some ⟨b9, 0, none⟩)) (.slice a0_7 (x6.1.1).length c0_7) rfl rfl rfl (reads_box tcell22 hb9 nn 0 _ rfl) ?_
  refine x_len (vs := [.slice a0_7 (x6.1.1).length c0_7]) (.int .i64 ((x6.1.1).length : Int)) rfl rfl rfl (reads_len tsl22 _ _ _ _ _) ?_
  refine x_pure 1 [(35, .bool (((x12.1.2).length : Int) != ((x6.1.1).length : Int)))] _ _ _ (by kernel_rfl) ?_
  refine x_end rfl (k_then ?_)
  refine c_cond (((x12.1.2).length : Int) != ((x6.1.1).length : Int)) rfl (fun hb => ?_) (fun hb => ?_)
  · replace h := ite_t hb h
    refine c_seq (c_plain ?_)
    refine x_pure 1 [(2, .bool false)] _ _ _ (by kernel_rfl) ?_
    refine x_end rfl (k_then ?_)
    refine c_ret ?_
    refine k_then_ret ?_
    refine r_ret (r_vals [.bool false] ⟨rfl, trivial⟩ ?_)
    have hx := some_inj h
    subst hx
    have hmr : MS w17 [M] := hms.pick [some 3] _ rfl
    have hsu : ∀ x ∈ fl [M], x ∈ fl [[b15], [b9], [b0_3], M] := pick_sub [some 3] _ rfl
    exact ⟨rfl, hev⟩
  replace h := ite_f hb h
  refine c_skip ?_
  refine k_then ?_
  refine c_seq (c_plain ?_)
  refine x_fieldAddr (xv := .pointer (some ⟨b9, 0, none⟩)) (.pointer (some ⟨b9, 0, none⟩)) rfl rfl rfl (reads_field tfld24_0 _ _) ?_
  refine x_load (xv := .pointer (some ⟨b9, 0, none⟩)) (.slice a0_7 (x6.1.1).length c0_7) rfl rfl rfl (reads_box tcell22 hb9 nn 0 _ rfl) ?_
  refine x_len (vs := [.slice a0_7 (x6.1.1).length c0_7]) (.int .i64 ((x6.1.1).length : Int)) rfl rfl rfl (reads_len tsl22 _ _ _ _ _) ?_
  have hg := guard_l h
  replace h := guard_r h
  obtain ⟨a22, c22, w22, hr22, he22, hn22, hw22⟩ := own_make (e := (eInt .i64)) tel27 w17 ((x6.1.1).length : Int) hg.1 hg.2 0 (fun _ _ => rfl)
  refine x_makeSlice _ w22 (xv := .int .i64 ((x6.1.1).length : Int)) (yv := .int .i64 ((x6.1.1).length : Int)) rfl rfl rfl rfl hr22 ?_
  refine ⟨.inl rfl, ?_⟩
  have hst := Stp.push (ls := [[b15], [b9], [b0_3], M]) (l := blk a22) he22 (fun _ h => by cases h) (fun b hb => (hn22 b hb).1)
  replace hf3_1 := he22.box hf3_1 nn
  replace hf3_2 := hf3_2.step hst
  replace hf7_1 := hf7_1.step hst
  replace hb9 := he22.box hb9 nn
  replace hf13_1 := hf13_1.step hst
  replace hb15 := he22.box hb15 nn
  replace hms := hms.push he22 hn22
  replace hfr := hfr.push (fun b hb => Nat.le_trans hev.size (hn22 b hb).1)
  replace hev := hev.ext he22
  have ho22 := hw22 (fl [blk a22, [b15], [b9], [b0_3], M])
  clear hw22
  refine x_pure 1 [(7, .slice a22 ((List.replicate (Int.toNat ((x6.1.1).length : Int)) 0 : List Int)).length c22)] _ _ _ (by kernel_rfl) ?_
  refine x_end rfl (k_then ?_)
  refine c_norm [(3, .pointer (some ⟨b0_3, 0, none⟩)), (4, .pointer (some ⟨b9, 0, none⟩)), (5, .pointer (some ⟨b15, 0, none⟩)), (7, .slice a22 ((List.replicate (Int.toNat ((x6.1.1).length : Int)) 0 : List Int)).length c22)] ⟨rfl, rfl, rfl, rfl, trivial⟩ (fun J => ?_)
  refine c_seq ?_
  refine c_seq (c_plain ?_)
  refine x_pure 1 [(8, .int .i64 0)] _ _ _ (by kernel_rfl) ?_
  refine x_end rfl (k_then ?_)
  refine c_block ?_
  have hpk : MS w22 [[b0_3], [b9], [b15], blk a22, M] := hms.pick [some 3, some 2, some 1, some 0, some 4] _ rfl
  have hsu : ∀ x ∈ fl [[b0_3], [b9], [b15], blk a22, M], x ∈ fl [blk a22, [b15], [b9], [b0_3], M] := pick_sub [some 3, some 2, some 1, some 0, some 4] _ rfl
  replace hf3_2 := hf3_2.sub hsu
  replace hf7_1 := hf7_1.sub hsu
  replace hf13_1 := hf13_1.sub hsu
  replace ho22 := ho22.sub hsu
  replace hms := hpk
  replace hfr : FR w.heap.size [[b0_3], [b9], [b15], blk a22] := hfr.pick [some 3, some 2, some 1, some 0] _ rfl
  clear hpk hsu
  obtain ⟨d25, hd25, h25⟩ := bind_some h
  obtain ⟨m25, hd25⟩ := loop_some hd25
  refine c_loop (loop_rule hmx (σ := Nat × Int × (List Int) × Int × Option Addr) (fun s => match s with | (_, e4_l25_1, d23_l25, b_s8_l25, a23_l25) => [(3, .pointer (some ⟨b0_3, 0, none⟩)), (4, .pointer (some ⟨b9, 0, none⟩)), (5, .pointer (some ⟨b15, 0, none⟩)), (7, .slice a23_l25 (d23_l25).length c22), (8, .int .i64 b_s8_l25)]) (fun s w' => match s with | (m, e4_l25_1, d23_l25, b_s8_l25, a23_l25) => loopN (law13_LeastcodeBelow_L25 x2 x6) m (e4_l25_1, d23_l25, b_s8_l25) = some d25 ∧ Ev [] w w' ∧ MS w' [[b0_3], [b9], [b15], blk a23_l25, M] ∧ FR w.heap.size [[b0_3], [b9], [b15], blk a23_l25] ∧ SlR (eInt .i64) w' (fl [[b0_3], [b9], [b15], blk a23_l25, M]) a1_3 c1_3 x2.1 ∧ w'.heap[b0_3]? = some (.cells #[.slice a1_3 (x2.1).length c1_3, .int .i64 e4_l25_1] 62 (0, 0)) ∧ SlR (eProd (eInt .i64) (eProd (eInt .i64) (eProd (eInt .i64) (eInt .i64)))) w' (fl [[b0_3], [b9], [b15], blk a23_l25, M]) a0_7 c0_7 x6.1.1 ∧ w'.heap[b9]? = some (.cells #[.slice a0_7 (x6.1.1).length c0_7, .int .i64 x6.1.2] 24 (0, 0)) ∧ SlR (eInt .i64) w' (fl [[b0_3], [b9], [b15], blk a23_l25, M]) a0_13 c0_13 x12.1.2 ∧ w'.heap[b15]? = some (.cells #[.int .i64 x12.1.1, .slice a0_13 (x12.1.2).length c0_13] 29 (0, 0)) ∧ OwnS (eInt .i64) 3 w' (fl [[b0_3], [b9], [b15], blk a23_l25, M]) a23_l25 c22 d23_l25) (fun s => s.1) (m25, x6.2, (List.replicate (Int.toNat ((x6.1.1).length : Int)) 0 : List Int), 0, a22) ⟨rfl, rfl, rfl, rfl, rfl, trivial⟩ ⟨hd25, hev, hms, hfr, hf3_2, hf3_1, hf7_1, hb9, hf13_1, hb15, ho22⟩ ?_)
  rintro ⟨m25, e4_l25_1, d23_l25, b_s8_l25, a23_l25⟩ J wl25 ⟨hn25, hev, hms, hfr, hf3_2, hf3_1, hf7_1, hb9, hf13_1, hb15, ho22⟩
  rcases m25 with _ | m25
  · exact (loopN_zero hn25).elim
  obtain ⟨t25, h, hn25⟩ := bind_some hn25
  refine c_seq ?_
  refine c_seq (c_plain ?_)
  refine x_pure 2 [(40, .int .i64 b_s8_l25), (41, .bool (decide (b_s8_l25 < 32)))] _ _ _ (by kernel_rfl) ?_
  refine x_end rfl (k_then ?_)
  refine c_norm [(3, .pointer (some ⟨b0_3, 0, none⟩)), (4, .pointer (some ⟨b9, 0, none⟩)), (5, .pointer (some ⟨b15, 0, none⟩)), (7, .slice a23_l25 (d23_l25).length c22), (8, .int .i64 b_s8_l25), (41, .bool (decide (b_s8_l25 < 32)))] ⟨rfl, rfl, rfl, rfl, rfl, rfl, trivial⟩ (fun J => ?_)
  refine c_cond (decide (b_s8_l25 < 32)) rfl (fun hb => ?_) (fun hb => ?_)
  · replace h := ite_t hb h
    refine c_skip ?_
    refine k_then ?_
    refine c_seq ?_
    refine c_block ?_
    refine c_seq (c_plain ?_)
    refine x_pure 1 [(44, .slice a23_l25 (d23_l25).length c22)] _ _ _ (by kernel_rfl) ?_
    refine x_len (vs := [.slice a23_l25 (d23_l25).length c22]) (.int .i64 ((d23_l25).length : Int)) rfl rfl rfl (reads_len tsl27 _ _ _ _ _) ?_
    refine x_pure 1 [(46, .int .i64 0)] _ _ _ (by kernel_rfl) ?_
    refine x_end rfl (k_then ?_)
    refine c_block ?_
    obtain ⟨d27, hd27, h27⟩ := bind_some h
    obtain ⟨m27, hd27⟩ := loop_some hd27
    refine c_loop (loop_rule hmx (σ := Nat × Int × (List Int) × Int × Option Addr) (fun s => match s with | (_, e4_l27_1, d23_l27, t46__s46_l27, a23_l27) => [(3, .pointer (some ⟨b0_3, 0, none⟩)), (4, .pointer (some ⟨b9, 0, none⟩)), (5, .pointer (some ⟨b15, 0, none⟩)), (7, .slice a23_l27 (d23_l27).length c22), (8, .int .i64 b_s8_l25), (45, .int .i64 ((d23_l25).length : Int)), (46, .int .i64 t46__s46_l27)]) (fun s w' => match s with | (m, e4_l27_1, d23_l27, t46__s46_l27, a23_l27) => loopN (law13_LeastcodeBelow_L27 x2 x6 d23_l25 b_s8_l25) m (e4_l27_1, d23_l27, t46__s46_l27) = some d27 ∧ Ev [] w w' ∧ MS w' [[b0_3], [b9], [b15], blk a23_l27, M] ∧ FR w.heap.size [[b0_3], [b9], [b15], blk a23_l27] ∧ SlR (eInt .i64) w' (fl [[b0_3], [b9], [b15], blk a23_l27, M]) a1_3 c1_3 x2.1 ∧ w'.heap[b0_3]? = some (.cells #[.slice a1_3 (x2.1).length c1_3, .int .i64 e4_l27_1] 62 (0, 0)) ∧ SlR (eProd (eInt .i64) (eProd (eInt .i64) (eProd (eInt .i64) (eInt .i64)))) w' (fl [[b0_3], [b9], [b15], blk a23_l27, M]) a0_7 c0_7 x6.1.1 ∧ w'.heap[b9]? = some (.cells #[.slice a0_7 (x6.1.1).length c0_7, .int .i64 x6.1.2] 24 (0, 0)) ∧ SlR (eInt .i64) w' (fl [[b0_3], [b9], [b15], blk a23_l27, M]) a0_13 c0_13 x12.1.2 ∧ w'.heap[b15]? = some (.cells #[.int .i64 x12.1.1, .slice a0_13 (x12.1.2).length c0_13] 29 (0, 0)) ∧ OwnS (eInt .i64) 3 w' (fl [[b0_3], [b9], [b15], blk a23_l27, M]) a23_l27 c22 d23_l27) (fun s => s.1) (m27, e4_l25_1, d23_l25, 0, a23_l25) ⟨rfl, rfl, rfl, rfl, rfl, rfl, rfl, trivial⟩ ⟨hd27, hev, hms, hfr, hf3_2, hf3_1, hf7_1, hb9, hf13_1, hb15, ho22⟩ ?_)
    rintro ⟨m27, e4_l27_1, d23_l27, t46__s46_l27, a23_l27⟩ J wl27 ⟨hn27, hev, hms, hfr, hf3_2, hf3_1, hf7_1, hb9, hf13_1, hb15, ho22⟩
    rcases m27 with _ | m27
    · exact (loopN_zero hn27).elim
    obtain ⟨t27, h, hn27⟩ := bind_some hn27
    refine c_seq (c_plain ?_)
    refine x_pure 1 [(47, .bool (decide (t46__s46_l27 < ((d23_l25).length : Int))))] _ _ _ (by kernel_rfl) ?_
    refine x_end rfl (k_then ?_)
    refine c_norm [(3, .pointer (some ⟨b0_3, 0, none⟩)), (4, .pointer (some ⟨b9, 0, none⟩)), (5, .pointer (some ⟨b15, 0, none⟩)), (7, .slice a23_l27 (d23_l27).length c22), (8, .int .i64 b_s8_l25), (45, .int .i64 ((d23_l25).length : Int)), (46, .int .i64 t46__s46_l27), (47, .bool (decide (t46__s46_l27 < ((d23_l25).length : Int))))] ⟨rfl, rfl, rfl, rfl, rfl, rfl, rfl, rfl, trivial⟩ (fun J => ?_)
    refine c_seq ?_
    refine c_cond (decide (t46__s46_l27 < ((d23_l25).length : Int))) rfl (fun hb => ?_) (fun hb => ?_)
    · replace h := ite_t hb h
      refine c_skip ?_
      refine k_then ?_
      refine c_seq ?_
      refine c_block ?_
      refine c_seq (c_plain ?_)
      refine x_pure 2 [(48, .int .i64 t46__s46_l27), (9, .int .i64 t46__s46_l27)] _ _ _ (by kernel_rfl) ?_
      refine x_end rfl (k_then ?_)
      refine c_seq ?_
      refine c_seq (c_plain ?_)
      refine x_fieldAddr (xv := .pointer (some ⟨b9, 0, none⟩)) (.pointer (some ⟨b9, 0, none⟩)) rfl rfl rfl (reads_field tfld24_0 _ _) ?_
      refine x_load (xv := .pointer (some ⟨b9, 0, none⟩)) (.slice a0_7 (x6.1.1).length c0_7) rfl rfl rfl (reads_box tcell22 hb9 nn 0 _ rfl) ?_
      refine x_pure 1 [(51, .int .i64 t46__s46_l27)] _ _ _ (by kernel_rfl) ?_
      obtain ⟨x30, hx30, h⟩ := bind_some h
      obtain ⟨ad30, cs30, hr30, hc30, hR⟩ := reads_index (Mo := []) tsl22 hf7_1 hx30
      obtain ⟨_, _, rfl, rfl, ⟨_, _, rfl, rfl, ⟨_, _, rfl, rfl, rfl⟩⟩⟩ := hR
      refine x_indexAddr (xv := .slice a0_7 (x6.1.1).length c0_7) (yv := .int .i64 t46__s46_l27) (.pointer (some ad30)) rfl rfl rfl rfl hr30 ?_
      refine x_fieldAddr (xv := .pointer (some ad30)) (.pointer (some (Addr.add ad30 1))) rfl rfl rfl (reads_field tfld26_1 _ _) ?_
      refine x_load (xv := .pointer (some (Addr.add ad30 1))) (.int .i64 x30.2.1) rfl rfl rfl (reads_cell tcell3 hc30 (fun _ h => by cases h) 1 _ rfl) ?_
      refine x_pure 2 [(55, .int .i64 b_s8_l25), (56, .bool (x30.2.1 != b_s8_l25))] _ _ _ (by kernel_rfl) ?_
      refine x_end rfl (k_then ?_)
      refine c_cond (x30.2.1 != b_s8_l25) rfl (fun hb => ?_) (fun hb => ?_)
      · replace h := ite_t hb h
        refine c_exit ?_
        refine k_then_exit ?_
        refine k_block_in ?_
        refine k_then ?_
        refine c_plain ?_
        refine x_pure 2 [(84, .int .i64 (IntKind.i64.wrap (t46__s46_l27 + 1))), (46, .int .i64 (IntKind.i64.wrap (t46__s46_l27 + 1)))] _ _ _ (by kernel_rfl) ?_
        refine x_end rfl ?_
        have hx := some_inj h
        subst hx
        exact k_then ⟨(m27, e4_l27_1, d23_l27, IntKind.i64.wrap (t46__s46_l27 + 1), a23_l27), ⟨rfl, rfl, rfl, rfl, rfl, rfl, rfl, trivial⟩, ⟨hn27, hev, hms, hfr, hf3_2, hf3_1, hf7_1, hb9, hf13_1, hb15, ho22⟩, Nat.lt_succ_self _⟩
      replace h := ite_f hb h
      refine c_skip ?_
      refine k_then ?_
      refine c_join (σ := Int × Int × Int) (fun s => match s with | (e4_j32_1, n_s10_j32, f_s11_j32) => [(3, .pointer (some ⟨b0_3, 0, none⟩)), (4, .pointer (some ⟨b9, 0, none⟩)), (5, .pointer (some ⟨b15, 0, none⟩)), (7, .slice a23_l27 (d23_l27).length c22), (8, .int .i64 b_s8_l25), (9, .int .i64 t46__s46_l27), (10, .int .i64 n_s10_j32), (11, .int .i64 f_s11_j32), (45, .int .i64 ((d23_l25).length : Int)), (46, .int .i64 t46__s46_l27)]) (fun s w' => match s with | (e4_j32_1, n_s10_j32, f_s11_j32) => law13_LeastcodeBelow_J32 d23_l27 t46__s46_l27 e4_j32_1 n_s10_j32 f_s11_j32 = some t27 ∧ Ev [] w w' ∧ MS w' [[b0_3], [b9], [b15], blk a23_l27, M] ∧ FR w.heap.size [[b0_3], [b9], [b15], blk a23_l27] ∧ SlR (eInt .i64) w' (fl [[b0_3], [b9], [b15], blk a23_l27, M]) a1_3 c1_3 x2.1 ∧ w'.heap[b0_3]? = some (.cells #[.slice a1_3 (x2.1).length c1_3, .int .i64 e4_j32_1] 62 (0, 0)) ∧ SlR (eProd (eInt .i64) (eProd (eInt .i64) (eProd (eInt .i64) (eInt .i64)))) w' (fl [[b0_3], [b9], [b15], blk a23_l27, M]) a0_7 c0_7 x6.1.1 ∧ w'.heap[b9]? = some (.cells #[.slice a0_7 (x6.1.1).length c0_7, .int .i64 x6.1.2] 24 (0, 0)) ∧ SlR (eInt .i64) w' (fl [[b0_3], [b9], [b15], blk a23_l27, M]) a0_13 c0_13 x12.1.2 ∧ w'.heap[b15]? = some (.cells #[.int .i64 x12.1.1, .slice a0_13 (x12.1.2).length c0_13] 29 (0, 0)) ∧ OwnS (eInt .i64) 3 w' (fl [[b0_3], [b9], [b15], blk a23_l27, M]) a23_l27 c22 d23_l27) ?_ ?_
      · refine c_drawnp [b0_3] [(0, false), (1, false), (2, false), (4, false), (8, false), (9, false), (10, false), (11, false), (12, false), (13, false), (14, false), (15, false)] (.alt 3 false (opsThen [(5, false), (6, false), (7, false), (16, false), (17, false), (18, false), (19, false), (20, true), (21, true)] .stop) (.alt 5 false (opsThen [(3, false), (6, false), (7, false), (16, false), (17, false), (18, false), (19, false), (20, true), (21, true)] .stop) .none_)) _ (by kernel_rfl) rfl ?_
        have hst := Stp.ext (ls := [[b0_3], [b9], [b15], blk a23_l27, M]) (Ev.drew wl27)
        replace hf3_1 := (Ev.drew wl27).box hf3_1 nn
        replace hf3_2 := hf3_2.step hst
        replace hb9 := (Ev.drew wl27).box hb9 nn
        replace hf7_1 := hf7_1.step hst
        replace hb15 := (Ev.drew wl27).box hb15 nn
        replace hf13_1 := hf13_1.step hst
        replace ho22 := ho22.step hst (Ev.drew wl27) nn2
        replace hms := hms.ev (Ev.drew wl27)
        replace hev := hev.ext (Ev.drew wl27)
        refine x_load (xv := .pointer (some ⟨b9, 0, none⟩)) (.agg #[.slice a0_7 (x6.1.1).length c0_7, .int .i64 x6.1.2]) rfl rfl rfl (reads_boxagg 0 [.slice a0_7 (x6.1.1).length c0_7, .int .i64 x6.1.2] tagg24 hb9 ((hms.apart 1 0 rfl rfl rfl) _ (List.mem_singleton.2 rfl)) rfl) ?_
        refine x_pure 3 [(59, .slice a23_l27 (d23_l27).length c22), (60, .int .i64 t46__s46_l27), (62, .pointer (some ⟨b0_3, 0, none⟩))] _ _ _ (by kernel_rfl) ?_
        refine x_fieldAddr (xv := .pointer (some ⟨b9, 0, none⟩)) (.pointer (some ⟨b9, 0, none⟩)) rfl rfl rfl (reads_field tfld24_0 _ _) ?_
        refine x_load (xv := .pointer (some ⟨b9, 0, none⟩)) (.slice a0_7 (x6.1.1).length c0_7) rfl rfl rfl (reads_box tcell22 hb9 ((hms.apart 1 0 rfl rfl rfl) _ (List.mem_singleton.2 rfl)) 0 _ rfl) ?_
        refine x_pure 1 [(68, .int .i64 t46__s46_l27)] _ _ _ (by kernel_rfl) ?_
        obtain ⟨x33, hx33, h⟩ := bind_some h
        obtain ⟨ad33, cs33, hr33, hc33, hR⟩ := reads_index (Mo := [b0_3]) tsl22 hf7_1 hx33
        obtain ⟨_, _, rfl, rfl, ⟨_, _, rfl, rfl, ⟨_, _, rfl, rfl, rfl⟩⟩⟩ := hR
        refine x_indexAddr (xv := .slice a0_7 (x6.1.1).length c0_7) (yv := .int .i64 t46__s46_l27) (.pointer (some ad33)) rfl rfl rfl rfl hr33 ?_
        refine x_fieldAddr (xv := .pointer (some ad33)) (.pointer (some (Addr.add ad33 2))) rfl rfl rfl (reads_field tfld26_2 _ _) ?_
        refine x_load (xv := .pointer (some (Addr.add ad33 2))) (.int .i64 x33.2.2.1) rfl rfl rfl (reads_cell tcell3 hc33 (mem_flat 0 rfl) 2 _ rfl) ?_
        refine x_fieldAddr (xv := .pointer (some ⟨b9, 0, none⟩)) (.pointer (some ⟨b9, 1, none⟩)) rfl rfl rfl (reads_field tfld24_1 _ _) ?_
        refine x_load (xv := .pointer (some ⟨b9, 1, none⟩)) (.int .i64 x6.1.2) rfl rfl rfl (reads_box tcell3 hb9 ((hms.apart 1 0 rfl rfl rfl) _ (List.mem_singleton.2 rfl)) 1 _ rfl) ?_
        refine x_end rfl ?_
        refine t_alt _ rfl ?_ ?_
        · obtain ⟨x35, hx, h⟩ := bind_some h
          have hpk : MS (wl27).drew ([] ++ [[b0_3], [b9], [b15], M]) := hms.pick [some 0, some 1, some 2, some 4] _ rfl
          have hsb0 : ∀ x ∈ fl ([] ++ [[b0_3], [b9], [b15], M]), x ∈ fl [[b0_3], [b9], [b15], blk a23_l27, M] := pick_sub [some 0, some 1, some 2, some 4] _ rfl
          have hsb : ∀ x ∈ fl ([] ++ [(fl [[b0_3], [b9], [b15], M])]), x ∈ fl [[b0_3], [b9], [b15], blk a23_l27, M] := fun x hx => hsb0 x (fl_unfold x hx)
          have hcall := r11_Base_w a0_7 c0_7 x6.1.1 x6.1.2 a23_l27 c22 d23_l27 t46__s46_l27 _ (wl27).drew (fl [[b0_3], [b9], [b15], M]) (MS.fold (P := []) hpk) (hf7_1.sub hsb) (ho22.ro hsb (fun b hb hb2 => pick_out hms 3 rfl [some 0, some 1, some 2, some 4] ([] ++ [[b0_3], [b9], [b15], M]) rfl rfl b hb (fl_unfold b hb2))) hx
          refine x_call 29 #[] #[] [.agg #[.slice a0_7 (x6.1.1).length c0_7, .int .i64 x6.1.2], .slice a23_l27 (d23_l27).length c22, .int .i64 t46__s46_l27] _ rfl rfl rfl rfl hcall ?_
          rintro v w36 ⟨rfl, he36⟩
          clear hcall hx
          refine ⟨.inr (he36.nil), ?_⟩
          have hst := Stp.ext (ls := [[b0_3], [b9], [b15], blk a23_l27, M]) he36
          replace hf3_1 := he36.box hf3_1 nn
          replace hf3_2 := hf3_2.step hst
          replace hb9 := he36.box hb9 nn
          replace hf7_1 := hf7_1.step hst
          replace hb15 := he36.box hb15 nn
          replace hf13_1 := hf13_1.step hst
          replace ho22 := ho22.step hst he36 nn2
          replace hc33 := hc33.step hst
          replace hms := hms.ev he36
          replace hev := hev.ext he36
          clear hpk hsb hsb0
          refine x_buildSlice (vs := [(0, .int .i64 0), (1, .int .i64 0), (2, .int .i64 1), (3, .int .i64 3)]) #[.int .i64 0, .int .i64 0, .int .i64 1, .int .i64 3] 3 rfl rfl rfl (by kernel_rfl) (fun b37 w37 hq37 hb37 he37 hz37 => ?_)
          refine ⟨.inr (he37.nil), ?_⟩
          have hms0 := hms
          have hst := Stp.ext (ls := [[b0_3], [b9], [b15], blk a23_l27, M]) he37
          replace hf3_1 := he37.box hf3_1 nn
          replace hf3_2 := hf3_2.step hst
          replace hb9 := he37.box hb9 nn
          replace hf7_1 := hf7_1.step hst
          replace hb15 := he37.box hb15 nn
          replace hf13_1 := hf13_1.step hst
          replace ho22 := ho22.step hst he37 nn2
          replace hc33 := hc33.step hst
          replace hms := hms.ev he37
          replace hev := hev.ext he37
          have hs37 : SlR (eInt .i64) w37 (fl [[b0_3], [b9], [b15], blk a23_l27, M]) (some ⟨b37, 0, none⟩) 4 ([0, 0, 1, 3]) := ro_of_box hms0 hq37 hb37 rfl rfl (cells_at (cs := [.int .i64 0, .int .i64 0, .int .i64 1, .int .i64 3]) (CellsOf.cons (c := [.int .i64 0]) rfl (CellsOf.cons (c := [.int .i64 0]) rfl (CellsOf.cons (c := [.int .i64 1]) rfl (CellsOf.cons (c := [.int .i64 3]) rfl CellsOf.nil)))))
          clear hb37 hms0
          obtain ⟨x39, hx, h⟩ := bind_some h
          have hpk : MS w37 ([[b0_3]] ++ [[b9], [b15], blk a23_l27, M]) := hms.pick [some 0, some 1, some 2, some 3, some 4] _ rfl
          have hsb0 : ∀ x ∈ fl ([[b0_3]] ++ [[b9], [b15], blk a23_l27, M]), x ∈ fl [[b0_3], [b9], [b15], blk a23_l27, M] := pick_sub [some 0, some 1, some 2, some 3, some 4] _ rfl
          have hsb : ∀ x ∈ fl ([[b0_3]] ++ [(fl [[b9], [b15], blk a23_l27, M])]), x ∈ fl [[b0_3], [b9], [b15], blk a23_l27, M] := fun x hx => hsb0 x (fl_unfold x hx)
          have hcall := gen_Maker_Pick_w b0_3 a1_3 c1_3 x2.1 e4_l27_1 (some ⟨b37, 0, none⟩) 4 ([0, 0, 1, 3]) _ w37 (fl [[b9], [b15], blk a23_l27, M]) (hpk.fold (P := [[b0_3]])) (hf3_2.sub hsb) hf3_1 (hs37.sub hsb) hx
          refine x_call 30 #[] #[] [.pointer (some ⟨b0_3, 0, none⟩), .slice (some ⟨b37, 0, none⟩) ([0, 0, 1, 3]).length 4] _ rfl rfl rfl rfl hcall ?_
          rintro v w40 ⟨rfl, he40, hp40_0⟩
          clear hcall hx
          refine ⟨.inr he40, ?_⟩
          have hpk2 : MS w37 ([[b0_3]] ++ [[b9], [b15], blk a23_l27, M]) := hms.pick [some 0, some 1, some 2, some 3, some 4] _ rfl
          have hsb2 : ∀ x ∈ fl ([[b0_3]] ++ [[b9], [b15], blk a23_l27, M]), x ∈ fl [[b0_3], [b9], [b15], blk a23_l27, M] := pick_sub [some 0, some 1, some 2, some 3, some 4] _ rfl
          have hst0 := Stp.call (LS := [[b0_3], [b9], [b15], blk a23_l27, M]) (res := []) (par := [[b0_3]]) (R := [[b9], [b15], blk a23_l27, M]) he40 (fun b hb => hsb2 b (fl_left' (P := [[b0_3]]) b hb)) (FR.nil _) (NP.init _ _) (fun x hx => hsb2 x (fl_right' (P := [[b0_3]]) x hx))
          have hsn : ∀ x ∈ fl [[b0_3], [b9], [b15], blk a23_l27, M], x ∈ fl ([] ++ ([[b0_3]] ++ [[b9], [b15], blk a23_l27, M])) := pick_sub [some 0, some 1, some 2, some 3, some 4] _ rfl
          have hst := hst0.res hsn
          replace hf3_2 := hf3_2.step hst
          replace hb9 := he40.box hb9 ((MS.outs (P := [[b0_3]]) hpk2 0 rfl) _ (List.mem_singleton.2 rfl))
          replace hf7_1 := hf7_1.step hst
          replace hb15 := he40.box hb15 ((MS.outs (P := [[b0_3]]) hpk2 1 rfl) _ (List.mem_singleton.2 rfl))
          replace hf13_1 := hf13_1.step hst
          replace ho22 := ho22.step hst he40 (MS.outs (P := [[b0_3]]) hpk2 2 rfl)
          replace hc33 := hc33.step hst
          replace hs37 := hs37.step hst
          replace hms := hms.ev he40
          have hPf : ∀ b ∈ fl [[b0_3]], w.heap.size ≤ b := FR.mem (ls := [[b0_3]]) (hfr.pick [some 0] _ rfl)
          replace hev := hev.then he40 (fun b hb => .inr (hPf b hb))
          replace hf3_1 := hp40_0
          clear hpk hsb hsb0 hpk2 hsb2 hst0 hsn hst
          refine x_pure 1 [(65, .int .i64 (IntKind.i64.wrap (x35 + x39.1)))] _ _ _ (by kernel_rfl) ?_
          obtain ⟨x41, hx, h⟩ := bind_some h
          have hcall := r12_Next_w (IntKind.i64.wrap (x35 + x39.1)) x33.2.2.1 x6.1.2 _ w40 hx
          refine x_call 28 #[] #[] [.int .i64 (IntKind.i64.wrap (x35 + x39.1)), .int .i64 x33.2.2.1, .int .i64 x6.1.2] _ rfl rfl rfl rfl hcall ?_
          rintro v w42 ⟨rfl, he42⟩
          clear hcall hx
          refine ⟨.inr (he42.nil), ?_⟩
          have hst := Stp.ext (ls := [[b0_3], [b9], [b15], blk a23_l27, M]) he42
          replace hf3_1 := he42.box hf3_1 nn
          replace hf3_2 := hf3_2.step hst
          replace hb9 := he42.box hb9 nn
          replace hf7_1 := hf7_1.step hst
          replace hb15 := he42.box hb15 nn
          replace hf13_1 := hf13_1.step hst
          replace ho22 := ho22.step hst he42 nn2
          replace hc33 := hc33.step hst
          replace hs37 := hs37.step hst
          replace hms := hms.ev he42
          replace hev := hev.ext he42
          refine x_pure 5 [(57, .tuple #[.int .i64 x41.1, .int .i64 x41.2]), (75, .int .i64 x41.1), (76, .int .i64 x41.2), (10, .int .i64 x41.1), (11, .int .i64 x41.2)] _ _ _ (by kernel_rfl) ?_
          refine x_end rfl ?_
          refine t_stop ?_
          exact k_then ⟨(x39.2, x41.1, x41.2), ⟨rfl, rfl, rfl, rfl, rfl, rfl, rfl, rfl, rfl, rfl, trivial⟩, h, hev, hms, hfr, hf3_2, hf3_1, hf7_1, hb9, hf13_1, hb15, ho22⟩
        refine t_alt _ rfl ?_ ?_
        · refine x_buildSlice (vs := [(0, .int .i64 0), (1, .int .i64 0), (2, .int .i64 1), (3, .int .i64 3)]) #[.int .i64 0, .int .i64 0, .int .i64 1, .int .i64 3] 3 rfl rfl rfl (by kernel_rfl) (fun b35 w35 hq35 hb35 he35 hz35 => ?_)
          refine ⟨.inr (he35.nil), ?_⟩
          have hms0 := hms
          have hst := Stp.ext (ls := [[b0_3], [b9], [b15], blk a23_l27, M]) he35
          replace hf3_1 := he35.box hf3_1 nn
          replace hf3_2 := hf3_2.step hst
          replace hb9 := he35.box hb9 nn
          replace hf7_1 := hf7_1.step hst
          replace hb15 := he35.box hb15 nn
          replace hf13_1 := hf13_1.step hst
          replace ho22 := ho22.step hst he35 nn2
          replace hc33 := hc33.step hst
          replace hms := hms.ev he35
          replace hev := hev.ext he35
          have hs35 : SlR (eInt .i64) w35 (fl [[b0_3], [b9], [b15], blk a23_l27, M]) (some ⟨b35, 0, none⟩) 4 ([0, 0, 1, 3]) := ro_of_box hms0 hq35 hb35 rfl rfl (cells_at (cs := [.int .i64 0, .int .i64 0, .int .i64 1, .int .i64 3]) (CellsOf.cons (c := [.int .i64 0]) rfl (CellsOf.cons (c := [.int .i64 0]) rfl (CellsOf.cons (c := [.int .i64 1]) rfl (CellsOf.cons (c := [.int .i64 3]) rfl CellsOf.nil)))))
          clear hb35 hms0
          obtain ⟨x37, hx, h⟩ := bind_some h
          have hpk : MS w35 ([] ++ [[b0_3], [b9], [b15], M]) := hms.pick [some 0, some 1, some 2, some 4] _ rfl
          have hsb0 : ∀ x ∈ fl ([] ++ [[b0_3], [b9], [b15], M]), x ∈ fl [[b0_3], [b9], [b15], blk a23_l27, M] := pick_sub [some 0, some 1, some 2, some 4] _ rfl
          have hsb : ∀ x ∈ fl ([] ++ [(fl [[b0_3], [b9], [b15], M])]), x ∈ fl [[b0_3], [b9], [b15], blk a23_l27, M] := fun x hx => hsb0 x (fl_unfold x hx)
          have hcall := r11_Base_w a0_7 c0_7 x6.1.1 x6.1.2 a23_l27 c22 d23_l27 t46__s46_l27 _ w35 (fl [[b0_3], [b9], [b15], M]) (MS.fold (P := []) hpk) (hf7_1.sub hsb) (ho22.ro hsb (fun b hb hb2 => pick_out hms 3 rfl [some 0, some 1, some 2, some 4] ([] ++ [[b0_3], [b9], [b15], M]) rfl rfl b hb (fl_unfold b hb2))) hx
          refine x_call 29 #[] #[] [.agg #[.slice a0_7 (x6.1.1).length c0_7, .int .i64 x6.1.2], .slice a23_l27 (d23_l27).length c22, .int .i64 t46__s46_l27] _ rfl rfl rfl rfl hcall ?_
          rintro v w38 ⟨rfl, he38⟩
          clear hcall hx
          refine ⟨.inr (he38.nil), ?_⟩
          have hst := Stp.ext (ls := [[b0_3], [b9], [b15], blk a23_l27, M]) he38
          replace hf3_1 := he38.box hf3_1 nn
          replace hf3_2 := hf3_2.step hst
          replace hb9 := he38.box hb9 nn
          replace hf7_1 := hf7_1.step hst
          replace hb15 := he38.box hb15 nn
          replace hf13_1 := hf13_1.step hst
          replace ho22 := ho22.step hst he38 nn2
          replace hc33 := hc33.step hst
          replace hs35 := hs35.step hst
          replace hms := hms.ev he38
          replace hev := hev.ext he38
          clear hpk hsb hsb0
          obtain ⟨x39, hx, h⟩ := bind_some h
          have hpk : MS w38 ([[b0_3]] ++ [[b9], [b15], blk a23_l27, M]) := hms.pick [some 0, some 1, some 2, some 3, some 4] _ rfl
          have hsb0 : ∀ x ∈ fl ([[b0_3]] ++ [[b9], [b15], blk a23_l27, M]), x ∈ fl [[b0_3], [b9], [b15], blk a23_l27, M] := pick_sub [some 0, some 1, some 2, some 3, some 4] _ rfl
          have hsb : ∀ x ∈ fl ([[b0_3]] ++ [(fl [[b9], [b15], blk a23_l27, M])]), x ∈ fl [[b0_3], [b9], [b15], blk a23_l27, M] := fun x hx => hsb0 x (fl_unfold x hx)
          have hcall := gen_Maker_Pick_w b0_3 a1_3 c1_3 x2.1 e4_l27_1 (some ⟨b35, 0, none⟩) 4 ([0, 0, 1, 3]) _ w38 (fl [[b9], [b15], blk a23_l27, M]) (hpk.fold (P := [[b0_3]])) (hf3_2.sub hsb) hf3_1 (hs35.sub hsb) hx
          refine x_call 30 #[] #[] [.pointer (some ⟨b0_3, 0, none⟩), .slice (some ⟨b35, 0, none⟩) ([0, 0, 1, 3]).length 4] _ rfl rfl rfl rfl hcall ?_
          rintro v w40 ⟨rfl, he40, hp40_0⟩
          clear hcall hx
          refine ⟨.inr he40, ?_⟩
          have hpk2 : MS w38 ([[b0_3]] ++ [[b9], [b15], blk a23_l27, M]) := hms.pick [some 0, some 1, some 2, some 3, some 4] _ rfl
          have hsb2 : ∀ x ∈ fl ([[b0_3]] ++ [[b9], [b15], blk a23_l27, M]), x ∈ fl [[b0_3], [b9], [b15], blk a23_l27, M] := pick_sub [some 0, some 1, some 2, some 3, some 4] _ rfl
          have hst0 := Stp.call (LS := [[b0_3], [b9], [b15], blk a23_l27, M]) (res := []) (par := [[b0_3]]) (R := [[b9], [b15], blk a23_l27, M]) he40 (fun b hb => hsb2 b (fl_left' (P := [[b0_3]]) b hb)) (FR.nil _) (NP.init _ _) (fun x hx => hsb2 x (fl_right' (P := [[b0_3]]) x hx))
          have hsn : ∀ x ∈ fl [[b0_3], [b9], [b15], blk a23_l27, M], x ∈ fl ([] ++ ([[b0_3]] ++ [[b9], [b15], blk a23_l27, M])) := pick_sub [some 0, some 1, some 2, some 3, some 4] _ rfl
          have hst := hst0.res hsn
          replace hf3_2 := hf3_2.step hst
          replace hb9 := he40.box hb9 ((MS.outs (P := [[b0_3]]) hpk2 0 rfl) _ (List.mem_singleton.2 rfl))
          replace hf7_1 := hf7_1.step hst
          replace hb15 := he40.box hb15 ((MS.outs (P := [[b0_3]]) hpk2 1 rfl) _ (List.mem_singleton.2 rfl))
          replace hf13_1 := hf13_1.step hst
          replace ho22 := ho22.step hst he40 (MS.outs (P := [[b0_3]]) hpk2 2 rfl)
          replace hc33 := hc33.step hst
          replace hs35 := hs35.step hst
          replace hms := hms.ev he40
          have hPf : ∀ b ∈ fl [[b0_3]], w.heap.size ≤ b := FR.mem (ls := [[b0_3]]) (hfr.pick [some 0] _ rfl)
          replace hev := hev.then he40 (fun b hb => .inr (hPf b hb))
          replace hf3_1 := hp40_0
          clear hpk hsb hsb0 hpk2 hsb2 hst0 hsn hst
          refine x_pure 1 [(65, .int .i64 (IntKind.i64.wrap (x37 + x39.1)))] _ _ _ (by kernel_rfl) ?_
          obtain ⟨x41, hx, h⟩ := bind_some h
          have hcall := r12_Next_w (IntKind.i64.wrap (x37 + x39.1)) x33.2.2.1 x6.1.2 _ w40 hx
          refine x_call 28 #[] #[] [.int .i64 (IntKind.i64.wrap (x37 + x39.1)), .int .i64 x33.2.2.1, .int .i64 x6.1.2] _ rfl rfl rfl rfl hcall ?_
          rintro v w42 ⟨rfl, he42⟩
          clear hcall hx
          refine ⟨.inr (he42.nil), ?_⟩
          have hst := Stp.ext (ls := [[b0_3], [b9], [b15], blk a23_l27, M]) he42
          replace hf3_1 := he42.box hf3_1 nn
          replace hf3_2 := hf3_2.step hst
          replace hb9 := he42.box hb9 nn
          replace hf7_1 := hf7_1.step hst
          replace hb15 := he42.box hb15 nn
          replace hf13_1 := hf13_1.step hst
          replace ho22 := ho22.step hst he42 nn2
          replace hc33 := hc33.step hst
          replace hs35 := hs35.step hst
          replace hms := hms.ev he42
          replace hev := hev.ext he42
          refine x_pure 5 [(57, .tuple #[.int .i64 x41.1, .int .i64 x41.2]), (75, .int .i64 x41.1), (76, .int .i64 x41.2), (10, .int .i64 x41.1), (11, .int .i64 x41.2)] _ _ _ (by kernel_rfl) ?_
          refine x_end rfl ?_
          refine t_stop ?_
          exact k_then ⟨(x39.2, x41.1, x41.2), ⟨rfl, rfl, rfl, rfl, rfl, rfl, rfl, rfl, rfl, rfl, trivial⟩, h, hev, hms, hfr, hf3_2, hf3_1, hf7_1, hb9, hf13_1, hb15, ho22⟩
        exact t_none
      rintro ⟨e4_j32_1, n_s10_j32, f_s11_j32⟩ J wj32 ⟨h, hev, hms, hfr, hf3_2, hf3_1, hf7_1, hb9, hf13_1, hb15, ho22⟩
      refine c_seq ?_
      refine c_seq (c_plain ?_)
      refine x_pure 2 [(77, .int .i64 f_s11_j32), (78, .bool (f_s11_j32 != 0))] _ _ _ (by kernel_rfl) ?_
      refine x_end rfl (k_then ?_)
      refine c_norm [(3, .pointer (some ⟨b0_3, 0, none⟩)), (4, .pointer (some ⟨b9, 0, none⟩)), (5, .pointer (some ⟨b15, 0, none⟩)), (7, .slice a23_l27 (d23_l27).length c22), (8, .int .i64 b_s8_l25), (9, .int .i64 t46__s46_l27), (10, .int .i64 n_s10_j32), (45, .int .i64 ((d23_l25).length : Int)), (46, .int .i64 t46__s46_l27), (78, .bool (f_s11_j32 != 0))] ⟨rfl, rfl, rfl, rfl, rfl, rfl, rfl, rfl, rfl, rfl, trivial⟩ (fun J => ?_)
      refine c_cond (f_s11_j32 != 0) rfl (fun hb => ?_) (fun hb => ?_)
      · replace h := ite_t hb h
        refine c_seq (c_plain ?_)
        obtain ⟨x35, hx, h⟩ := bind_some h
        have hcall := law13_sane_w _ wj32 hx
        refine x_call 13 #[] #[] [] _ rfl rfl rfl rfl hcall ?_
        rintro v w36 ⟨rfl, he36⟩
        clear hcall hx
        refine ⟨.inl rfl, ?_⟩
        have hst := Stp.ext (ls := [[b0_3], [b9], [b15], blk a23_l27, M]) he36
        replace hf3_1 := he36.box hf3_1 nn
        replace hf3_2 := hf3_2.step hst
        replace hb9 := he36.box hb9 nn
        replace hf7_1 := hf7_1.step hst
        replace hb15 := he36.box hb15 nn
        replace hf13_1 := hf13_1.step hst
        replace ho22 := ho22.step hst he36 nn2
        replace hms := hms.ev he36
        replace hev := hev.ext he36
        refine x_pure 1 [(2, .bool x35)] _ _ _ (by kernel_rfl) ?_
        refine x_end rfl (k_then ?_)
        refine c_ret ?_
        refine k_then_ret ?_
        refine k_block_ret ?_
        refine k_then_ret ?_
        have hx := some_inj h
        subst hx
        have hy := some_inj hn27
        subst hy
        replace h := h27
        refine k_then_ret ?_
        refine k_block_ret ?_
        refine k_block_ret ?_
        refine k_then_ret ?_
        have hx := some_inj h
        subst hx
        have hy := some_inj hn25
        subst hy
        replace h := h25
        refine k_then_ret ?_
        refine k_block_ret ?_
        refine k_then_ret ?_
        refine r_ret (r_vals [.bool x35] ⟨rfl, trivial⟩ ?_)
        have hx := some_inj h
        subst hx
        have hmr : MS w36 [M] := hms.pick [some 4] _ rfl
        have hsu : ∀ x ∈ fl [M], x ∈ fl [[b0_3], [b9], [b15], blk a23_l27, M] := pick_sub [some 4] _ rfl
        exact ⟨rfl, hev⟩
      replace h := ite_f hb h
      refine c_skip ?_
      refine k_then ?_
      refine c_plain ?_
      refine x_pure 3 [(80, .slice a23_l27 (d23_l27).length c22), (81, .int .i64 t46__s46_l27), (82, .int .i64 n_s10_j32)] _ _ _ (by kernel_rfl) ?_
      obtain ⟨x37, hx37, h⟩ := bind_some h
      obtain ⟨g37, cs37, ha, hr37, hc37, hR⟩ := own_index (Mo := []) tsl27 ho22 hx37
      subst ha
      obtain rfl := hR
      refine x_indexAddr (xv := .slice (some ⟨g37, 0, none⟩) (d23_l27).length c22) (yv := .int .i64 t46__s46_l27) (.pointer (some ⟨g37, (Int.toNat t46__s46_l27) * (eInt .i64).n, none⟩)) rfl rfl rfl rfl hr37 ?_
      obtain ⟨w39, hr39, he39, ho39⟩ := own_store (y := n_s10_j32) 0 (.int .i64 n_s10_j32) tcell3 ho22 (mem_flat 3 rfl _ (List.mem_singleton.2 rfl)) hx37 rfl rfl (fun _ _ _ hR => set_int hR)
      refine x_store w39 (xv := .pointer (some ⟨g37, (Int.toNat t46__s46_l27) * (eInt .i64).n, none⟩)) (yv := .int .i64 n_s10_j32) rfl rfl rfl rfl hr39 ?_
      refine ⟨.inl rfl, ?_⟩
      have hst := Stp.ev' (ls := [[b0_3], [b9], [b15], blk (some ⟨g37, 0, none⟩), M]) he39 (mem_flat 3 rfl)
      replace hf3_1 := he39.box hf3_1 (hms.apart 0 3 rfl rfl rfl _ (List.mem_singleton.2 rfl))
      replace hf3_2 := hf3_2.step hst
      replace hb9 := he39.box hb9 (hms.apart 1 3 rfl rfl rfl _ (List.mem_singleton.2 rfl))
      replace hf7_1 := hf7_1.step hst
      replace hb15 := he39.box hb15 (hms.apart 2 3 rfl rfl rfl _ (List.mem_singleton.2 rfl))
      replace hf13_1 := hf13_1.step hst
      replace hms := hms.ev he39
      replace hev := hev.then he39 (fun b hb => .inr (hfr.at 3 rfl b hb))
      replace ho22 := ho39
      have hsl : (Value.slice (some ⟨g37, 0, none⟩) (d23_l27).length c22) = (Value.slice (some ⟨g37, 0, none⟩) ((d23_l27.set (Int.toNat t46__s46_l27) n_s10_j32)).length c22) := by first | (rw [List.length_set]; done) | simp only [List.length_set]
      try rw [hsl]
      clear hsl
      refine x_end rfl ?_
      refine k_block ?_
      refine k_then ?_
      refine c_plain ?_
      refine x_pure 2 [(84, .int .i64 (IntKind.i64.wrap (t46__s46_l27 + 1))), (46, .int .i64 (IntKind.i64.wrap (t46__s46_l27 + 1)))] _ _ _ (by kernel_rfl) ?_
      refine x_end rfl ?_
      have hx := some_inj h
      subst hx
      exact k_then ⟨(m27, e4_j32_1, (d23_l27.set (Int.toNat t46__s46_l27) n_s10_j32), IntKind.i64.wrap (t46__s46_l27 + 1), (some ⟨g37, 0, none⟩)), ⟨rfl, rfl, rfl, rfl, rfl, rfl, rfl, trivial⟩, ⟨hn27, hev, hms, hfr, hf3_2, hf3_1, hf7_1, hb9, hf13_1, hb15, ho22⟩, Nat.lt_succ_self _⟩
    replace h := ite_f hb h
    refine c_exit ?_
    refine k_then_exit ?_
    have hx := some_inj h
    subst hx
    have hy := some_inj hn27
    subst hy
    replace h := h27
    refine k_then_exit ?_
    refine k_block_in ?_
    refine k_block ?_
    refine k_then ?_
    refine c_norm [(3, .pointer (some ⟨b0_3, 0, none⟩)), (4, .pointer (some ⟨b9, 0, none⟩)), (5, .pointer (some ⟨b15, 0, none⟩)), (7, .slice a23_l27 (d23_l27).length c22), (8, .int .i64 b_s8_l25)] ⟨rfl, rfl, rfl, rfl, rfl, trivial⟩ (fun J => ?_)
    refine c_plain ?_
    refine x_pure 3 [(42, .int .i64 b_s8_l25), (43, .int .i64 (IntKind.i64.wrap (b_s8_l25 + 1))), (8, .int .i64 (IntKind.i64.wrap (b_s8_l25 + 1)))] _ _ _ (by kernel_rfl) ?_
    refine x_end rfl ?_
    have hx := some_inj h
    subst hx
    exact k_then ⟨(m25, e4_l27_1, d23_l27, IntKind.i64.wrap (b_s8_l25 + 1), a23_l27), ⟨rfl, rfl, rfl, rfl, rfl, trivial⟩, ⟨hn25, hev, hms, hfr, hf3_2, hf3_1, hf7_1, hb9, hf13_1, hb15, ho22⟩, Nat.lt_succ_self _⟩
  replace h := ite_f hb h
  refine c_exit ?_
  refine k_then_exit ?_
  have hx := some_inj h
  subst hx
  have hy := some_inj hn25
  subst hy
  replace h := h25
  refine k_then_exit ?_
  refine k_block_in ?_
  refine k_then ?_
  refine c_norm [(4, .pointer (some ⟨b9, 0, none⟩)), (5, .pointer (some ⟨b15, 0, none⟩)), (7, .slice a23_l25 (d23_l25).length c22)] ⟨rfl, rfl, rfl, trivial⟩ (fun J => ?_)
  refine c_seq ?_
  refine c_seq (c_plain ?_)
  refine x_pure 1 [(85, .slice a23_l25 (d23_l25).length c22)] _ _ _ (by kernel_rfl) ?_
  refine x_len (vs := [.slice a23_l25 (d23_l25).length c22]) (.int .i64 ((d23_l25).length : Int)) rfl rfl rfl (reads_len tsl27 _ _ _ _ _) ?_
  refine x_pure 1 [(87, .int .i64 0)] _ _ _ (by kernel_rfl) ?_
  refine x_end rfl (k_then ?_)
  refine c_block ?_
  have hpk : MS wl25 [[b9], [b15], blk a23_l25, M] := hms.pick [some 1, some 2, some 3, some 4] _ rfl
  have hsu : ∀ x ∈ fl [[b9], [b15], blk a23_l25, M], x ∈ fl [[b0_3], [b9], [b15], blk a23_l25, M] := pick_sub [some 1, some 2, some 3, some 4] _ rfl
  replace hf7_1 := hf7_1.sub hsu
  replace hf13_1 := hf13_1.sub hsu
  replace ho22 := ho22.sub hsu
  replace hms := hpk
  replace hfr : FR w.heap.size [[b9], [b15], blk a23_l25] := hfr.pick [some 1, some 2, some 3] _ rfl
  clear hpk hsu
  obtain ⟨d41, hd41, h41⟩ := bind_some h
  obtain ⟨m41, hd41⟩ := loop_some hd41
  refine c_loop (loop_rule hmx (σ := Nat × Int × Option Addr) (fun s => match s with | (_, t87__s87_l41, a23_l41) => [(4, .pointer (some ⟨b9, 0, none⟩)), (5, .pointer (some ⟨b15, 0, none⟩)), (7, .slice a23_l41 (d23_l25).length c22), (86, .int .i64 ((d23_l25).length : Int)), (87, .int .i64 t87__s87_l41)]) (fun s w' => match s with | (m, t87__s87_l41, a23_l41) => loopN (law13_LeastcodeBelow_L41 x12 d23_l25) m t87__s87_l41 = some d41 ∧ Ev [] w w' ∧ MS w' [[b9], [b15], blk a23_l41, M] ∧ FR w.heap.size [[b9], [b15], blk a23_l41] ∧ SlR (eProd (eInt .i64) (eProd (eInt .i64) (eProd (eInt .i64) (eInt .i64)))) w' (fl [[b9], [b15], blk a23_l41, M]) a0_7 c0_7 x6.1.1 ∧ w'.heap[b9]? = some (.cells #[.slice a0_7 (x6.1.1).length c0_7, .int .i64 x6.1.2] 24 (0, 0)) ∧ SlR (eInt .i64) w' (fl [[b9], [b15], blk a23_l41, M]) a0_13 c0_13 x12.1.2 ∧ w'.heap[b15]? = some (.cells #[.int .i64 x12.1.1, .slice a0_13 (x12.1.2).length c0_13] 29 (0, 0)) ∧ OwnS (eInt .i64) 3 w' (fl [[b9], [b15], blk a23_l41, M]) a23_l41 c22 d23_l25) (fun s => s.1) (m41, 0, a23_l25) ⟨rfl, rfl, rfl, rfl, rfl, trivial⟩ ⟨hd41, hev, hms, hfr, hf7_1, hb9, hf13_1, hb15, ho22⟩ ?_)
  rintro ⟨m41, t87__s87_l41, a23_l41⟩ J wl41 ⟨hn41, hev, hms, hfr, hf7_1, hb9, hf13_1, hb15, ho22⟩
  rcases m41 with _ | m41
  · exact (loopN_zero hn41).elim
  obtain ⟨t41, h, hn41⟩ := bind_some hn41
  refine c_seq (c_plain ?_)
  refine x_pure 1 [(88, .bool (decide (t87__s87_l41 < ((d23_l25).length : Int))))] _ _ _ (by kernel_rfl) ?_
  refine x_end rfl (k_then ?_)
  refine c_norm [(4, .pointer (some ⟨b9, 0, none⟩)), (5, .pointer (some ⟨b15, 0, none⟩)), (7, .slice a23_l41 (d23_l25).length c22), (86, .int .i64 ((d23_l25).length : Int)), (87, .int .i64 t87__s87_l41), (88, .bool (decide (t87__s87_l41 < ((d23_l25).length : Int))))] ⟨rfl, rfl, rfl, rfl, rfl, rfl, trivial⟩ (fun J => ?_)
  refine c_seq ?_
  refine c_cond (decide (t87__s87_l41 < ((d23_l25).length : Int))) rfl (fun hb => ?_) (fun hb => ?_)
  · replace h := ite_t hb h
    refine c_skip ?_
    refine k_then ?_
    refine c_seq ?_
    refine c_block ?_
    refine c_seq (c_plain ?_)
    refine x_pure 2 [(89, .int .i64 t87__s87_l41), (12, .int .i64 t87__s87_l41)] _ _ _ (by kernel_rfl) ?_
    refine x_end rfl (k_then ?_)
    refine c_seq ?_
    refine c_drawn [] [(0, false), (1, false), (2, false), (3, false), (4, false), (5, false), (6, false), (7, false), (8, false), (9, false)] _ (by kernel_rfl) rfl ?_
    have hst := Stp.ext (ls := [[b9], [b15], blk a23_l41, M]) (Ev.drew wl41)
    replace hb9 := (Ev.drew wl41).box hb9 nn
    replace hf7_1 := hf7_1.step hst
    replace hb15 := (Ev.drew wl41).box hb15 nn
    replace hf13_1 := hf13_1.step hst
    replace ho22 := ho22.step hst (Ev.drew wl41) nn2
    replace hms := hms.ev (Ev.drew wl41)
    replace hev := hev.ext (Ev.drew wl41)
    refine x_fieldAddr (xv := .pointer (some ⟨b15, 0, none⟩)) (.pointer (some ⟨b15, 1, none⟩)) rfl rfl rfl (reads_field tfld29_1 _ _) ?_
    refine x_load (xv := .pointer (some ⟨b15, 1, none⟩)) (.slice a0_13 (x12.1.2).length c0_13) rfl rfl rfl (reads_box tcell27 hb15 nn 1 _ rfl) ?_
    refine x_pure 1 [(92, .int .i64 t87__s87_l41)] _ _ _ (by kernel_rfl) ?_
    obtain ⟨x43, hx43, h⟩ := bind_some h
    obtain ⟨ad43, cs43, hr43, hc43, hR⟩ := reads_index (Mo := []) tsl27 hf13_1 hx43
    obtain rfl := hR
    refine x_indexAddr (xv := .slice a0_13 (x12.1.2).length c0_13) (yv := .int .i64 t87__s87_l41) (.pointer (some ad43)) rfl rfl rfl rfl hr43 ?_
    refine x_load (xv := .pointer (some ad43)) (.int .i64 x43) rfl rfl rfl (reads_cell0 tcell3 hc43 (fun _ h => by cases h)) ?_
    refine x_pure 2 [(95, .slice a23_l41 (d23_l25).length c22), (96, .int .i64 t87__s87_l41)] _ _ _ (by kernel_rfl) ?_
    obtain ⟨x45, hx45, h⟩ := bind_some h
    obtain ⟨g45, cs45, ha, hr45, hc45, hR⟩ := own_index (Mo := []) tsl27 ho22 hx45
    subst ha
    obtain rfl := hR
    refine x_indexAddr (xv := .slice (some ⟨g45, 0, none⟩) (d23_l25).length c22) (yv := .int .i64 t87__s87_l41) (.pointer (some ⟨g45, (Int.toNat t87__s87_l41) * (eInt .i64).n, none⟩)) rfl rfl rfl rfl hr45 ?_
    refine x_load (xv := .pointer (some ⟨g45, (Int.toNat t87__s87_l41) * (eInt .i64).n, none⟩)) (.int .i64 x45) rfl rfl rfl (reads_cell0 tcell3 hc45 (fun _ h => by cases h)) ?_
    refine x_pure 1 [(99, .bool (decide (x43 > x45)))] _ _ _ (by kernel_rfl) ?_
    refine x_end rfl (k_then ?_)
    refine c_cond (decide (x43 > x45)) rfl (fun hb => ?_) (fun hb => ?_)
    · replace h := ite_t hb h
      refine c_seq (c_plain ?_)
      refine x_pure 1 [(2, .bool false)] _ _ _ (by kernel_rfl) ?_
      refine x_end rfl (k_then ?_)
      refine c_norm [(2, .bool false)] ⟨rfl, trivial⟩ (fun J => ?_)
      refine c_ret ?_
      refine k_block_ret ?_
      refine k_then_ret ?_
      have hx := some_inj h
      subst hx
      have hy := some_inj hn41
      subst hy
      replace h := h41
      refine k_then_ret ?_
      refine k_block_ret ?_
      refine k_then_ret ?_
      refine r_ret (r_vals [.bool false] ⟨rfl, trivial⟩ ?_)
      have hx := some_inj h
      subst hx
      have hmr : MS (wl41).drew [M] := hms.pick [some 3] _ rfl
      have hsu : ∀ x ∈ fl [M], x ∈ fl [[b9], [b15], blk (some ⟨g45, 0, none⟩), M] := pick_sub [some 3] _ rfl
      exact ⟨rfl, hev⟩
    replace h := ite_f hb h
    refine c_skip ?_
    refine k_block ?_
    refine k_then ?_
    refine c_norm [(4, .pointer (some ⟨b9, 0, none⟩)), (5, .pointer (some ⟨b15, 0, none⟩)), (7, .slice (some ⟨g45, 0, none⟩) (d23_l25).length c22), (86, .int .i64 ((d23_l25).length : Int)), (87, .int .i64 t87__s87_l41)] ⟨rfl, rfl, rfl, rfl, rfl, trivial⟩ (fun J => ?_)
    refine c_plain ?_
    refine x_pure 2 [(100, .int .i64 (IntKind.i64.wrap (t87__s87_l41 + 1))), (87, .int .i64 (IntKind.i64.wrap (t87__s87_l41 + 1)))] _ _ _ (by kernel_rfl) ?_
    refine x_end rfl ?_
    have hx := some_inj h
    subst hx
    exact k_then ⟨(m41, IntKind.i64.wrap (t87__s87_l41 + 1), (some ⟨g45, 0, none⟩)), ⟨rfl, rfl, rfl, rfl, rfl, trivial⟩, ⟨hn41, hev, hms, hfr, hf7_1, hb9, hf13_1, hb15, ho22⟩, Nat.lt_succ_self _⟩
  replace h := ite_f hb h
  refine c_exit ?_
  refine k_then_exit ?_
  have hx := some_inj h
  subst hx
  have hy := some_inj hn41
  subst hy
  replace h := h41
  refine k_then_exit ?_
  refine k_block_in ?_
  refine k_then ?_
  refine c_norm [(4, .pointer (some ⟨b9, 0, none⟩)), (7, .slice a23_l41 (d23_l25).length c22)] ⟨rfl, rfl, trivial⟩ (fun J => ?_)
  refine c_seq (c_plain ?_)
  refine x_load (xv := .pointer (some ⟨b9, 0, none⟩)) (.agg #[.slice a0_7 (x6.1.1).length c0_7, .int .i64 x6.1.2]) rfl rfl rfl (reads_boxagg 0 [.slice a0_7 (x6.1.1).length c0_7, .int .i64 x6.1.2] tagg24 hb9 nn rfl) ?_
  refine x_pure 1 [(102, .slice a23_l41 (d23_l25).length c22)] _ _ _ (by kernel_rfl) ?_
  obtain ⟨x47, hx, h⟩ := bind_some h
  have hpk : MS wl41 ([] ++ [[b9], [b15], M]) := hms.pick [some 0, some 1, some 3] _ rfl
  have hsb0 : ∀ x ∈ fl ([] ++ [[b9], [b15], M]), x ∈ fl [[b9], [b15], blk a23_l41, M] := pick_sub [some 0, some 1, some 3] _ rfl
  have hsb : ∀ x ∈ fl ([] ++ [(fl [[b9], [b15], M])]), x ∈ fl [[b9], [b15], blk a23_l41, M] := fun x hx => hsb0 x (fl_unfold x hx)
  have hcall := law13_sorts_w a0_7 c0_7 x6.1.1 x6.1.2 a23_l41 c22 d23_l25 _ wl41 (fl [[b9], [b15], M]) (MS.fold (P := []) hpk) (hf7_1.sub hsb) (ho22.ro hsb (fun b hb hb2 => pick_out hms 2 rfl [some 0, some 1, some 3] ([] ++ [[b9], [b15], M]) rfl rfl b hb (fl_unfold b hb2))) hx
  refine x_call 21 #[] #[] [.agg #[.slice a0_7 (x6.1.1).length c0_7, .int .i64 x6.1.2], .slice a23_l41 (d23_l25).length c22] _ rfl rfl rfl rfl hcall ?_
  rintro v w48 ⟨rfl, he48⟩
  clear hcall hx
  refine ⟨.inl rfl, ?_⟩
  have hst := Stp.ext (ls := [[b9], [b15], blk a23_l41, M]) he48
  replace hb9 := he48.box hb9 nn
  replace hf7_1 := hf7_1.step hst
  replace hb15 := he48.box hb15 nn
  replace hf13_1 := hf13_1.step hst
  replace ho22 := ho22.step hst he48 nn2
  replace hms := hms.ev he48
  replace hev := hev.ext he48
  clear hpk hsb hsb0
  refine x_pure 1 [(104, .bool x47)] _ _ _ (by kernel_rfl) ?_
  refine x_split 104 x47 rfl (fun hb => ?_) (fun hb => ?_)
  · replace h := ite_t hb h
    obtain ⟨x49, hx, h⟩ := bind_some h
    have hcall := law13_sane_w _ w48 hx
    refine x_call 13 #[] #[] [] _ rfl rfl rfl rfl hcall ?_
    rintro v w50 ⟨rfl, he50⟩
    clear hcall hx
    refine ⟨.inl rfl, ?_⟩
    have hst := Stp.ext (ls := [[b9], [b15], blk a23_l41, M]) he50
    replace hb9 := he50.box hb9 nn
    replace hf7_1 := hf7_1.step hst
    replace hb15 := he50.box hb15 nn
    replace hf13_1 := hf13_1.step hst
    replace ho22 := ho22.step hst he50 nn2
    replace hms := hms.ev he50
    replace hev := hev.ext he50
    refine x_pure 2 [(106, .bool x49), (2, .bool x49)] _ _ _ (by kernel_rfl) ?_
    refine x_end rfl (k_then ?_)
    refine c_ret ?_
    refine r_ret (r_vals [.bool x49] ⟨rfl, trivial⟩ ?_)
    have hx := some_inj h
    subst hx
    have hmr : MS w50 [M] := hms.pick [some 3] _ rfl
    have hsu : ∀ x ∈ fl [M], x ∈ fl [[b9], [b15], blk a23_l41, M] := pick_sub [some 3] _ rfl
    exact ⟨rfl, hev⟩
  replace h := ite_f hb h
  refine x_pure 3 [(105, undef), (106, .bool false), (2, .bool false)] _ _ _ (by kernel_rfl) ?_
  refine x_end rfl (k_then ?_)
  refine c_ret ?_
  refine r_ret (r_vals [.bool false] ⟨rfl, trivial⟩ ?_)
  have hx := some_inj h
  subst hx
  have hmr : MS w48 [M] := hms.pick [some 3] _ rfl
  have hsu : ∀ x ∈ fl [M], x ∈ fl [[b9], [b15], blk a23_l41, M] := pick_sub [some 3] _ rfl
  exact ⟨rfl, hev⟩
end Go.Proofs.Ytgdaanhiagoonaa
