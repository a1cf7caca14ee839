/- Walks, printed by program: each function returns what the partial function of the same name returns. Conditions: those of each theorem. -/
import Derived.Test.YtmjobkpgnhbcbaaGT
import Derived.Test.YtmjobkpgnhbcbaaGgen
import Derived.Test.YtmjobkpgnhbcbaaGlaw14plan
import Derived.Test.YtmjobkpgnhbcbaaGlaw14sane
import Derived.Test.YtmjobkpgnhbcbaaGr12
import Derived.Test.YtmjobkpgnhbcbaaGrollin
set_option linter.unusedVariables false
set_option linter.unusedSimpArgs false
set_option maxRecDepth 4000
namespace Go.Proofs.Ytmjobkpgnhbcbaa
open Go Go.V Go.Proofs
def law14_RollinMoves_L39 (x6 : ((List (Int × Int × Int × Int)) × Int) × Int) (t43__s43_l30 : Int) (x36 : (List Int) × Int) (s : (List Int) × Int) : Option (Step ((List Int) × Int) (List Int)) :=
match s with
| (d28_l39, t66__s66_l39) =>
(if (decide (t66__s66_l39 < ((x36.1).length : Int))) = true then
((idx x36.1 t66__s66_l39).bind fun x41 =>
((idx d28_l39 x41).bind fun x43 =>
((idx x6.1.1 t43__s43_l30).bind fun x45 =>
((idx d28_l39 x41).bind fun x47 =>
some (.next ((d28_l39.set (Int.toNat x41) (IntKind.i64.wrap (x43 + x45.2.2.2))), IntKind.i64.wrap (t66__s66_l39 + 1)))))))
else
some (.done d28_l39))

def law14_RollinMoves_L30 (x6 : ((List (Int × Int × Int × Int)) × Int) × Int) (x12 : (Int × (List Int)) × Int) (s : Int × (List Int) × Int) : Option (Step (Int × (List Int) × Int) (Int × (List Int))) :=
match s with
| (moves_s10_l30, d28_l30, t43__s43_l30) =>
(if (decide (t43__s43_l30 < ((x12.1.2).length : Int))) = true then
((idx x12.1.2 t43__s43_l30).bind fun x32 =>
((idx x6.1.1 t43__s43_l30).bind fun x34 =>
((r12_Real x32 x34.2.2.1).bind fun x36 =>
((loop (law14_RollinMoves_L39 x6 t43__s43_l30 x36) (d28_l30, 0)).bind fun d => match d with
| d28_x39 => some (.next (IntKind.i64.wrap (moves_s10_l30 + (IntKind.i64.wrap (1 + ((x36.1).length : Int)))), d28_x39, IntKind.i64.wrap (t43__s43_l30 + 1)))))))
else
some (.done (moves_s10_l30, d28_l30)))

def law14_RollinMoves (p0 : List Int) : Option Bool :=
((gen_New p0).bind fun x2 =>
((gen_Maker_Job x2.1 x2.2 14).bind fun x6 =>
((law14_plan x2.1 x6.2 x6.1.1 x6.1.2).bind fun x12 =>
((rollin_Run x6.1.1 x6.1.2 x12.1.1 x12.1.2).bind fun x18 =>
((rollin_Loads x6.1.1 x6.1.2 x12.1.1 x12.1.2).bind fun x24 =>
(if 0 ≤ x12.1.1 ∧ x12.1.1 ≤ 4294967296 then
((loop (law14_RollinMoves_L30 x6 x12) (0, (List.replicate (Int.toNat x12.1.1) 0 : List Int), 0)).bind fun d => match d with
| (moves_s10_x30, d28_x30) => (if (x18.2 == 0) = true then
(if (x24.2 == 0) = true then
(if (x18.1.2 == moves_s10_x30) = true then
(if (decide (((x24.1).length : Int) ≥ x12.1.1)) = true then
(if 0 ≤ (0 : Int) ∧ (0 : Int) ≤ x12.1.1 ∧ x12.1.1 ≤ (x24.1.length : Int) then
((gen_Ints ((x24.1.drop (Int.toNat (0 : Int))).take (Int.toNat x12.1.1 - Int.toNat (0 : Int))) d28_x30).bind fun x52 =>
(if x52 = true then
((law14_sane).bind fun x54 =>
some x54)
else
some false))
else none)
else
some false)
else
some false)
else
some false)
else
some false))
else none))))))

theorem law14_RollinMoves_w (a_p0 : Option Addr) (c_p0 : Nat) (p0 : List Int) (r : Bool) (w : World) (M : List Nat) (hms : MS w [M]) (hs_p0 : SlR (eInt .i64) w (fl [M]) a_p0 c_p0 p0) (h : law14_RollinMoves p0 = some r) : CallVC Try.prog 5 [.slice a_p0 (p0).length c_p0] w fun v w' => v = .bool r ∧ Ev [] w w' := by
  refine calls_vc hmx Try.func5 (by kernel_rfl) rfl (rs := [.tmp 2]) rfl (by kernel_rfl) (args := [.slice a_p0 (p0).length c_p0]) rfl ?_
  have hev : Ev [] w w := Ev.refl _ _
  have hfr : FR w.heap.size [] := FR.nil _
  refine c_seq (c_plain ?_)
  refine x_pure 1 [(2, .bool false)] _ _ _ (by kernel_rfl) ?_
  refine x_end rfl (k_then ?_)
  refine c_seq (c_plain ?_)
  refine x_pure 1 [(18, .slice a_p0 (p0).length c_p0)] _ _ _ (by kernel_rfl) ?_
  obtain ⟨x2, hx, h⟩ := bind_some h
  have hpk : MS w ([] ++ [M]) := hms.pick [some 0] _ rfl
  have hsb0 : ∀ x ∈ fl ([] ++ [M]), x ∈ fl [M] := pick_sub [some 0] _ rfl
  have hsb : ∀ x ∈ fl ([] ++ [(fl [M])]), x ∈ fl [M] := fun x hx => hsb0 x (fl_unfold x hx)
  have hcall := gen_New_w a_p0 c_p0 p0 _ w (fl [M]) (MS.fold (P := []) hpk) (hs_p0.sub hsb) hx
  refine x_call 11 #[] #[] [.slice a_p0 (p0).length c_p0] _ rfl rfl rfl rfl hcall ?_
  rintro v w3 ⟨b0_3, a1_3, c1_3, rfl, he3, hmn3, hfn3, hf3_1, hf3_2⟩
  clear hcall hx
  refine ⟨.inl rfl, ?_⟩
  have hpk2 : MS w ([] ++ [M]) := hms.pick [some 0] _ rfl
  have hsb2 : ∀ x ∈ fl ([] ++ [M]), x ∈ fl [M] := pick_sub [some 0] _ rfl
  have hst0 := Stp.call (LS := [M]) (res := [[b0_3]]) (par := []) (R := [M]) he3 (fun b hb => hsb2 b (fl_left' (P := []) b hb)) hfn3 (NP.init _ _) (fun x hx => hsb2 x (fl_right' (P := []) x hx))
  have hsn : ∀ x ∈ fl [[b0_3], M], x ∈ fl ([[b0_3]] ++ ([] ++ [M])) := pick_sub [some 0, some 1] _ rfl
  have hst := hst0.res hsn
  replace hs_p0 := hs_p0.step hst
  replace hms : MS w3 [[b0_3], M] := (MS.call (P := []) (R := [M]) (res := [[b0_3]]) (par := []) hpk2 he3 hmn3 hfn3 (NP.init _ _)).pick [some 0, some 1] _ rfl
  have hfr2 : FR w.heap.size [[b0_3]] := (FR.cons (fun b hb => Nat.le_trans hev.size (hfn3.at 0 rfl b hb)) (FR.nil _))
  replace hev := hev.ext he3
  replace hfr := hfr2
  clear hfr2
  have hsp : ∀ x ∈ fl [[b0_3], M], x ∈ fl ([[b0_3]] ++ ([] ++ [(fl [M])])) := fun x hx => fl_tot (res := [[b0_3]]) (par := []) (R := [M]) x (hsn x hx)
  replace hf3_2 := hf3_2.sub hsp
  clear hpk hsb hsb0 hpk2 hsb2 hst0 hsn hst
  refine x_pure 1 [(3, .pointer (some ⟨b0_3, 0, none⟩))] _ _ _ (by kernel_rfl) ?_
  refine x_end rfl (k_then ?_)
  refine c_seq (c_plain ?_)
  refine x_pure 1 [(20, .pointer (some ⟨b0_3, 0, none⟩))] _ _ _ (by kernel_rfl) ?_
  obtain ⟨x6, hx, h⟩ := bind_some h
  have hpk : MS w3 ([[b0_3]] ++ [M]) := hms.pick [some 0, some 1] _ rfl
  have hsb0 : ∀ x ∈ fl ([[b0_3]] ++ [M]), x ∈ fl [[b0_3], M] := pick_sub [some 0, some 1] _ rfl
  have hsb : ∀ x ∈ fl ([[b0_3]] ++ [(fl [M])]), x ∈ fl [[b0_3], M] := fun x hx => hsb0 x (fl_unfold x hx)
  have hcall := gen_Maker_Job_w b0_3 a1_3 c1_3 x2.1 x2.2 14 _ w3 (fl [M]) (hpk.fold (P := [[b0_3]])) (hf3_2.sub hsb) hf3_1 hx
  refine x_call 12 #[] #[] [.pointer (some ⟨b0_3, 0, none⟩), .int .i64 14] _ rfl rfl rfl rfl hcall ?_
  rintro v w7 ⟨a0_7, c0_7, rfl, he7, hp7_0, hmn7, hfn7, hf7_1⟩
  clear hcall hx
  refine ⟨.inl rfl, ?_⟩
  have hpk2 : MS w3 ([[b0_3]] ++ [M]) := hms.pick [some 0, some 1] _ rfl
  have hsb2 : ∀ x ∈ fl ([[b0_3]] ++ [M]), x ∈ fl [[b0_3], M] := pick_sub [some 0, some 1] _ rfl
  have hst0 := Stp.call (LS := [[b0_3], M]) (res := [blk a0_7]) (par := [[b0_3]]) (R := [M]) he7 (fun b hb => hsb2 b (fl_left' (P := [[b0_3]]) b hb)) hfn7 (NP.init _ _) (fun x hx => hsb2 x (fl_right' (P := [[b0_3]]) x hx))
  have hsn : ∀ x ∈ fl [blk a0_7, [b0_3], M], x ∈ fl ([blk a0_7] ++ ([[b0_3]] ++ [M])) := pick_sub [some 0, some 1, some 2] _ rfl
  have hst := hst0.res hsn
  replace hf3_2 := hf3_2.step hst
  replace hms : MS w7 [blk a0_7, [b0_3], M] := (MS.call (P := [[b0_3]]) (R := [M]) (res := [blk a0_7]) (par := [[b0_3]]) hpk2 he7 hmn7 hfn7 (NP.init _ _)).pick [some 0, some 1, some 2] _ rfl
  have hPf : ∀ b ∈ fl [[b0_3]], w.heap.size ≤ b := FR.mem (ls := [[b0_3]]) (hfr.pick [some 0] _ rfl)
  have hfr2 : FR w.heap.size [blk a0_7, [b0_3]] := (FR.cons (fun b hb => Nat.le_trans hev.size (hfn7.at 0 rfl b hb)) (FR.cons (hfr.at 0 rfl) (FR.nil _)))
  replace hev := hev.then he7 (fun b hb => .inr (hPf b hb))
  replace hfr := hfr2
  clear hfr2
  replace hf3_1 := hp7_0
  replace hf7_1 := OwnS.plain (M' := fl [blk a0_7, [b0_3], M]) (plain_prod (plain_int _) (plain_prod (plain_int _) (plain_prod (plain_int _) (plain_int _)))) hf7_1
  clear hpk hsb hsb0 hpk2 hsb2 hst0 hsn hst
  have hpk : MS w7 [[b0_3], M] := hms.pick [some 1, some 2] _ rfl
  have hsu : ∀ x ∈ fl [[b0_3], M], x ∈ fl [blk a0_7, [b0_3], M] := pick_sub [some 1, some 2] _ rfl
  replace hf3_2 := hf3_2.sub hsu
  replace hf7_1 := hf7_1.ro hsu (pick_out hms 0 rfl [some 1, some 2] [[b0_3], M] rfl rfl)
  replace hms := hpk
  replace hfr : FR w.heap.size [[b0_3]] := hfr.pick [some 1] _ rfl
  clear hpk hsu
  refine x_alloc (z := .agg #[.slice none 0 0, .int .i64 0]) rfl rfl (by kernel_rfl) (fun b9 w9 hq9 hb9 he9 _ => ?_)
  replace hb9 : w9.heap[b9]? = some (.cells #[.slice none 0 0, .int .i64 0] 27 (0, 0)) := hb9
  refine ⟨.inl rfl, ?_⟩
  have hst := Stp.box (ls := [[b0_3], M]) he9 hq9
  replace hf3_1 := he9.box hf3_1 nn
  replace hf3_2 := hf3_2.step hst
  replace hf7_1 := hf7_1.step hst
  replace hms := hms.box he9 hq9 hb9
  replace hfr := hfr.box hev.size hq9
  replace hev := hev.ext he9
  obtain ⟨w11, hr11, hb11, he11⟩ := store_boxagg 0 [.slice a0_7 (x6.1.1).length c0_7, .int .i64 x6.1.2] #[.slice a0_7 (x6.1.1).length c0_7, .int .i64 x6.1.2] tagg27 hb9 rfl rfl rfl
  refine x_store w11 (xv := .pointer (some ⟨b9, 0, none⟩)) (yv := .agg #[.slice a0_7 (x6.1.1).length c0_7, .int .i64 x6.1.2]) rfl rfl rfl rfl hr11 ?_
  refine ⟨.inl rfl, ?_⟩
  have hst := Stp.ev' (ls := [[b9], [b0_3], M]) he11 (mem_flat 0 rfl)
  replace hf3_1 := he11.box hf3_1 (hms.apart 1 0 rfl rfl rfl _ (List.mem_singleton.2 rfl))
  replace hf3_2 := hf3_2.step hst
  replace hf7_1 := hf7_1.step hst
  replace hms := hms.ev he11
  replace hev := hev.then he11 (fun b hb => .inr (hfr.at 0 rfl b hb))
  replace hb9 := hb11
  refine x_end rfl (k_then ?_)
  refine c_seq (c_plain ?_)
  refine x_pure 1 [(22, .pointer (some ⟨b0_3, 0, none⟩))] _ _ _ (by kernel_rfl) ?_
  refine x_load (xv := .pointer (some ⟨b9, 0, none⟩)) (.agg #[.slice a0_7 (x6.1.1).length c0_7, .int .i64 x6.1.2]) rfl rfl rfl (reads_boxagg 0 [.slice a0_7 (x6.1.1).length c0_7, .int .i64 x6.1.2] tagg27 hb9 nn rfl) ?_
  obtain ⟨x12, hx, h⟩ := bind_some h
  have hpk : MS w11 ([[b0_3]] ++ [[b9], M]) := hms.pick [some 1, some 0, some 2] _ rfl
  have hsb0 : ∀ x ∈ fl ([[b0_3]] ++ [[b9], M]), x ∈ fl [[b9], [b0_3], M] := pick_sub [some 1, some 0, some 2] _ rfl
  have hsb : ∀ x ∈ fl ([[b0_3]] ++ [(fl [[b9], M])]), x ∈ fl [[b9], [b0_3], M] := fun x hx => hsb0 x (fl_unfold x hx)
  have hcall := law14_plan_w b0_3 a1_3 c1_3 x2.1 x6.2 a0_7 c0_7 x6.1.1 x6.1.2 _ w11 (fl [[b9], M]) (hpk.fold (P := [[b0_3]])) (hf3_2.sub hsb) hf3_1 (hf7_1.sub hsb) hx
  refine x_call 13 #[] #[] [.pointer (some ⟨b0_3, 0, none⟩), .agg #[.slice a0_7 (x6.1.1).length c0_7, .int .i64 x6.1.2]] _ rfl rfl rfl rfl hcall ?_
  rintro v w13 ⟨a0_13, c0_13, rfl, he13, hp13_0, hmn13, hfn13, hf13_1⟩
  clear hcall hx
  refine ⟨.inl rfl, ?_⟩
  have hpk2 : MS w11 ([[b0_3]] ++ [[b9], M]) := hms.pick [some 1, some 0, some 2] _ rfl
  have hsb2 : ∀ x ∈ fl ([[b0_3]] ++ [[b9], M]), x ∈ fl [[b9], [b0_3], M] := pick_sub [some 1, some 0, some 2] _ rfl
  have hst0 := Stp.call (LS := [[b9], [b0_3], M]) (res := [blk a0_13]) (par := [[b0_3]]) (R := [[b9], M]) he13 (fun b hb => hsb2 b (fl_left' (P := [[b0_3]]) b hb)) hfn13 (NP.init _ _) (fun x hx => hsb2 x (fl_right' (P := [[b0_3]]) x hx))
  have hsn : ∀ x ∈ fl [blk a0_13, [b9], [b0_3], M], x ∈ fl ([blk a0_13] ++ ([[b0_3]] ++ [[b9], M])) := pick_sub [some 0, some 2, some 1, some 3] _ rfl
  have hst := hst0.res hsn
  replace hf3_2 := hf3_2.step hst
  replace hf7_1 := hf7_1.step hst
  replace hb9 := he13.box hb9 ((MS.outs (P := [[b0_3]]) hpk2 0 rfl) _ (List.mem_singleton.2 rfl))
  replace hms : MS w13 [blk a0_13, [b9], [b0_3], M] := (MS.call (P := [[b0_3]]) (R := [[b9], M]) (res := [blk a0_13]) (par := [[b0_3]]) hpk2 he13 hmn13 hfn13 (NP.init _ _)).pick [some 0, some 2, some 1, some 3] _ rfl
  have hPf : ∀ b ∈ fl [[b0_3]], w.heap.size ≤ b := FR.mem (ls := [[b0_3]]) (hfr.pick [some 1] _ rfl)
  have hfr2 : FR w.heap.size [blk a0_13, [b9], [b0_3]] := (FR.cons (fun b hb => Nat.le_trans hev.size (hfn13.at 0 rfl b hb)) (FR.cons (hfr.at 0 rfl) (FR.cons (hfr.at 1 rfl) (FR.nil _))))
  replace hev := hev.then he13 (fun b hb => .inr (hPf b hb))
  replace hfr := hfr2
  clear hfr2
  replace hf3_1 := hp13_0
  replace hf13_1 := OwnS.plain (M' := fl [blk a0_13, [b9], [b0_3], M]) (plain_int _) hf13_1
  clear hpk hsb hsb0 hpk2 hsb2 hst0 hsn hst
  have hpk : MS w13 [[b9], [b0_3], M] := hms.pick [some 1, some 2, some 3] _ rfl
  have hsu : ∀ x ∈ fl [[b9], [b0_3], M], x ∈ fl [blk a0_13, [b9], [b0_3], M] := pick_sub [some 1, some 2, some 3] _ rfl
  replace hf3_2 := hf3_2.sub hsu
  replace hf7_1 := hf7_1.sub hsu
  replace hf13_1 := hf13_1.ro hsu (pick_out hms 0 rfl [some 1, some 2, some 3] [[b9], [b0_3], M] rfl rfl)
  replace hms := hpk
  replace hfr : FR w.heap.size [[b9], [b0_3]] := hfr.pick [some 1, some 2] _ rfl
  clear hpk hsu
  refine x_alloc (z := .agg #[.int .i64 0, .slice none 0 0]) rfl rfl (by kernel_rfl) (fun b15 w15 hq15 hb15 he15 _ => ?_)
  replace hb15 : w15.heap[b15]? = some (.cells #[.int .i64 0, .slice none 0 0] 30 (0, 0)) := hb15
  refine ⟨.inl rfl, ?_⟩
  have hst := Stp.box (ls := [[b9], [b0_3], M]) he15 hq15
  replace hf3_1 := he15.box hf3_1 nn
  replace hf3_2 := hf3_2.step hst
  replace hf7_1 := hf7_1.step hst
  replace hb9 := he15.box hb9 nn
  replace hf13_1 := hf13_1.step hst
  replace hms := hms.box he15 hq15 hb15
  replace hfr := hfr.box hev.size hq15
  replace hev := hev.ext he15
  obtain ⟨w17, hr17, hb17, he17⟩ := store_boxagg 0 [.int .i64 x12.1.1, .slice a0_13 (x12.1.2).length c0_13] #[.int .i64 x12.1.1, .slice a0_13 (x12.1.2).length c0_13] tagg30 hb15 rfl rfl rfl
  refine x_store w17 (xv := .pointer (some ⟨b15, 0, none⟩)) (yv := .agg #[.int .i64 x12.1.1, .slice a0_13 (x12.1.2).length c0_13]) rfl rfl rfl rfl hr17 ?_
  refine ⟨.inl rfl, ?_⟩
  have hst := Stp.ev' (ls := [[b15], [b9], [b0_3], M]) he17 (mem_flat 0 rfl)
  replace hf3_1 := he17.box hf3_1 (hms.apart 2 0 rfl rfl rfl _ (List.mem_singleton.2 rfl))
  replace hf3_2 := hf3_2.step hst
  replace hf7_1 := hf7_1.step hst
  replace hb9 := he17.box hb9 (hms.apart 1 0 rfl rfl rfl _ (List.mem_singleton.2 rfl))
  replace hf13_1 := hf13_1.step hst
  replace hms := hms.ev he17
  replace hev := hev.then he17 (fun b hb => .inr (hfr.at 0 rfl b hb))
  replace hb15 := hb17
  refine x_end rfl (k_then ?_)
  refine c_seq (c_plain ?_)
  refine x_load (xv := .pointer (some ⟨b9, 0, none⟩)) (.agg #[.slice a0_7 (x6.1.1).length c0_7, .int .i64 x6.1.2]) rfl rfl rfl (reads_boxagg 0 [.slice a0_7 (x6.1.1).length c0_7, .int .i64 x6.1.2] tagg27 hb9 nn rfl) ?_
  refine x_load (xv := .pointer (some ⟨b15, 0, none⟩)) (.agg #[.int .i64 x12.1.1, .slice a0_13 (x12.1.2).length c0_13]) rfl rfl rfl (reads_boxagg 0 [.int .i64 x12.1.1, .slice a0_13 (x12.1.2).length c0_13] tagg30 hb15 nn rfl) ?_
  obtain ⟨x18, hx, h⟩ := bind_some h
  have hpk : MS w17 ([] ++ [[b15], [b9], [b0_3], M]) := hms.pick [some 0, some 1, some 2, some 3] _ rfl
  have hsb0 : ∀ x ∈ fl ([] ++ [[b15], [b9], [b0_3], M]), x ∈ fl [[b15], [b9], [b0_3], M] := pick_sub [some 0, some 1, some 2, some 3] _ rfl
  have hsb : ∀ x ∈ fl ([] ++ [(fl [[b15], [b9], [b0_3], M])]), x ∈ fl [[b15], [b9], [b0_3], M] := fun x hx => hsb0 x (fl_unfold x hx)
  have hcall := rollin_Run_w a0_7 c0_7 x6.1.1 x6.1.2 x12.1.1 a0_13 c0_13 x12.1.2 _ w17 (fl [[b15], [b9], [b0_3], M]) (MS.fold (P := []) hpk) (hf7_1.sub hsb) (hf13_1.sub hsb) hx
  refine x_call 14 #[] #[] [.agg #[.slice a0_7 (x6.1.1).length c0_7, .int .i64 x6.1.2], .agg #[.int .i64 x12.1.1, .slice a0_13 (x12.1.2).length c0_13]] _ rfl rfl rfl rfl hcall ?_
  rintro v w19 ⟨a0_19, c0_19, B2_19, rfl, he19, hmn19, hfn19, hf19_1⟩
  clear hcall hx
  refine ⟨.inl rfl, ?_⟩
  have hpk2 : MS w17 ([] ++ [[b15], [b9], [b0_3], M]) := hms.pick [some 0, some 1, some 2, some 3] _ rfl
  have hsb2 : ∀ x ∈ fl ([] ++ [[b15], [b9], [b0_3], M]), x ∈ fl [[b15], [b9], [b0_3], M] := pick_sub [some 0, some 1, some 2, some 3] _ rfl
  have hst0 := Stp.call (LS := [[b15], [b9], [b0_3], M]) (res := [B2_19]) (par := []) (R := [[b15], [b9], [b0_3], M]) he19 (fun b hb => hsb2 b (fl_left' (P := []) b hb)) hfn19 (NP.init _ _) (fun x hx => hsb2 x (fl_right' (P := []) x hx))
  have hsn : ∀ x ∈ fl [B2_19, [b15], [b9], [b0_3], M], x ∈ fl ([B2_19] ++ ([] ++ [[b15], [b9], [b0_3], M])) := pick_sub [some 0, some 1, some 2, some 3, some 4] _ rfl
  have hst := hst0.res hsn
  replace hf3_1 := he19.box hf3_1 ((MS.outs (P := []) hpk2 2 rfl) _ (List.mem_singleton.2 rfl))
  replace hf3_2 := hf3_2.step hst
  replace hf7_1 := hf7_1.step hst
  replace hb9 := he19.box hb9 ((MS.outs (P := []) hpk2 1 rfl) _ (List.mem_singleton.2 rfl))
  replace hf13_1 := hf13_1.step hst
  replace hb15 := he19.box hb15 ((MS.outs (P := []) hpk2 0 rfl) _ (List.mem_singleton.2 rfl))
  replace hms : MS w19 [B2_19, [b15], [b9], [b0_3], M] := (MS.call (P := []) (R := [[b15], [b9], [b0_3], M]) (res := [B2_19]) (par := []) hpk2 he19 hmn19 hfn19 (NP.init _ _)).pick [some 0, some 1, some 2, some 3, some 4] _ rfl
  have hfr2 : FR w.heap.size [B2_19, [b15], [b9], [b0_3]] := (FR.cons (fun b hb => Nat.le_trans hev.size (hfn19.at 0 rfl b hb)) (FR.cons (hfr.at 0 rfl) (FR.cons (hfr.at 1 rfl) (FR.cons (hfr.at 2 rfl) (FR.nil _)))))
  replace hev := hev.ext he19
  replace hfr := hfr2
  clear hfr2
  clear hpk hsb hsb0 hpk2 hsb2 hst0 hsn hst
  have hpk : MS w19 [[b15], [b9], [b0_3], M] := hms.pick [some 1, some 2, some 3, some 4] _ rfl
  have hsu : ∀ x ∈ fl [[b15], [b9], [b0_3], M], x ∈ fl [B2_19, [b15], [b9], [b0_3], M] := pick_sub [some 1, some 2, some 3, some 4] _ rfl
  replace hf3_2 := hf3_2.sub hsu
  replace hf7_1 := hf7_1.sub hsu
  replace hf13_1 := hf13_1.sub hsu
  replace hf19_1 := hf19_1.ro (plain_int _) (pick_out hms 0 rfl [some 1, some 2, some 3, some 4] [[b15], [b9], [b0_3], M] rfl rfl)
  replace hms := hpk
  replace hfr : FR w.heap.size [[b15], [b9], [b0_3]] := hfr.pick [some 1, some 2, some 3] _ rfl
  clear hpk hsu
  refine x_pure 3 [(25, .tuple #[.agg #[.slice a0_19 (x18.1.1).length c0_19, .int .i64 x18.1.2], .int .i64 x18.2]), (29, .agg #[.slice a0_19 (x18.1.1).length c0_19, .int .i64 x18.1.2]), (30, .int .i64 x18.2)] _ _ _ (by kernel_rfl) ?_
  refine x_alloc (z := .agg #[.slice none 0 0, .int .i64 0]) rfl rfl (by kernel_rfl) (fun b21 w21 hq21 hb21 he21 _ => ?_)
  replace hb21 : w21.heap[b21]? = some (.cells #[.slice none 0 0, .int .i64 0] 34 (0, 0)) := hb21
  refine ⟨.inl rfl, ?_⟩
  have hst := Stp.box (ls := [[b15], [b9], [b0_3], M]) he21 hq21
  replace hf3_1 := he21.box hf3_1 nn
  replace hf3_2 := hf3_2.step hst
  replace hf7_1 := hf7_1.step hst
  replace hb9 := he21.box hb9 nn
  replace hf13_1 := hf13_1.step hst
  replace hb15 := he21.box hb15 nn
  replace hf19_1 := hf19_1.step hst
  replace hms := hms.box he21 hq21 hb21
  replace hfr := hfr.box hev.size hq21
  replace hev := hev.ext he21
  obtain ⟨w23, hr23, hb23, he23⟩ := store_boxagg 0 [.slice a0_19 (x18.1.1).length c0_19, .int .i64 x18.1.2] #[.slice a0_19 (x18.1.1).length c0_19, .int .i64 x18.1.2] tagg34 hb21 rfl rfl rfl
  refine x_store w23 (xv := .pointer (some ⟨b21, 0, none⟩)) (yv := .agg #[.slice a0_19 (x18.1.1).length c0_19, .int .i64 x18.1.2]) rfl rfl rfl rfl hr23 ?_
  refine ⟨.inl rfl, ?_⟩
  have hst := Stp.ev' (ls := [[b21], [b15], [b9], [b0_3], M]) he23 (mem_flat 0 rfl)
  replace hf3_1 := he23.box hf3_1 (hms.apart 3 0 rfl rfl rfl _ (List.mem_singleton.2 rfl))
  replace hf3_2 := hf3_2.step hst
  replace hf7_1 := hf7_1.step hst
  replace hb9 := he23.box hb9 (hms.apart 2 0 rfl rfl rfl _ (List.mem_singleton.2 rfl))
  replace hf13_1 := hf13_1.step hst
  replace hb15 := he23.box hb15 (hms.apart 1 0 rfl rfl rfl _ (List.mem_singleton.2 rfl))
  replace hf19_1 := hf19_1.step hst
  replace hms := hms.ev he23
  replace hev := hev.then he23 (fun b hb => .inr (hfr.at 0 rfl b hb))
  replace hb21 := hb23
  refine x_pure 1 [(7, .int .i64 x18.2)] _ _ _ (by kernel_rfl) ?_
  refine x_end rfl (k_then ?_)
  refine c_norm [(4, .pointer (some ⟨b9, 0, none⟩)), (5, .pointer (some ⟨b15, 0, none⟩)), (6, .pointer (some ⟨b21, 0, none⟩)), (7, .int .i64 x18.2)] ⟨rfl, rfl, rfl, rfl, trivial⟩ (fun J => ?_)
  refine c_seq (c_plain ?_)
  refine x_load (xv := .pointer (some ⟨b9, 0, none⟩)) (.agg #[.slice a0_7 (x6.1.1).length c0_7, .int .i64 x6.1.2]) rfl rfl rfl (reads_boxagg 0 [.slice a0_7 (x6.1.1).length c0_7, .int .i64 x6.1.2] tagg27 hb9 nn rfl) ?_
  refine x_load (xv := .pointer (some ⟨b15, 0, none⟩)) (.agg #[.int .i64 x12.1.1, .slice a0_13 (x12.1.2).length c0_13]) rfl rfl rfl (reads_boxagg 0 [.int .i64 x12.1.1, .slice a0_13 (x12.1.2).length c0_13] tagg30 hb15 nn rfl) ?_
  obtain ⟨x24, hx, h⟩ := bind_some h
  have hpk : MS w23 ([] ++ [[b21], [b15], [b9], [b0_3], M]) := hms.pick [some 0, some 1, some 2, some 3, some 4] _ rfl
  have hsb0 : ∀ x ∈ fl ([] ++ [[b21], [b15], [b9], [b0_3], M]), x ∈ fl [[b21], [b15], [b9], [b0_3], M] := pick_sub [some 0, some 1, some 2, some 3, some 4] _ rfl
  have hsb : ∀ x ∈ fl ([] ++ [(fl [[b21], [b15], [b9], [b0_3], M])]), x ∈ fl [[b21], [b15], [b9], [b0_3], M] := fun x hx => hsb0 x (fl_unfold x hx)
  have hcall := rollin_Loads_w a0_7 c0_7 x6.1.1 x6.1.2 x12.1.1 a0_13 c0_13 x12.1.2 _ w23 (fl [[b21], [b15], [b9], [b0_3], M]) (MS.fold (P := []) hpk) (hf7_1.sub hsb) (hf13_1.sub hsb) hx
  refine x_call 17 #[] #[] [.agg #[.slice a0_7 (x6.1.1).length c0_7, .int .i64 x6.1.2], .agg #[.int .i64 x12.1.1, .slice a0_13 (x12.1.2).length c0_13]] _ rfl rfl rfl rfl hcall ?_
  rintro v w25 ⟨a0_25, c0_25, rfl, he25, hmn25, hfn25, hf25_1⟩
  clear hcall hx
  refine ⟨.inl rfl, ?_⟩
  have hpk2 : MS w23 ([] ++ [[b21], [b15], [b9], [b0_3], M]) := hms.pick [some 0, some 1, some 2, some 3, some 4] _ rfl
  have hsb2 : ∀ x ∈ fl ([] ++ [[b21], [b15], [b9], [b0_3], M]), x ∈ fl [[b21], [b15], [b9], [b0_3], M] := pick_sub [some 0, some 1, some 2, some 3, some 4] _ rfl
  have hst0 := Stp.call (LS := [[b21], [b15], [b9], [b0_3], M]) (res := [blk a0_25]) (par := []) (R := [[b21], [b15], [b9], [b0_3], M]) he25 (fun b hb => hsb2 b (fl_left' (P := []) b hb)) hfn25 (NP.init _ _) (fun x hx => hsb2 x (fl_right' (P := []) x hx))
  have hsn : ∀ x ∈ fl [blk a0_25, [b21], [b15], [b9], [b0_3], M], x ∈ fl ([blk a0_25] ++ ([] ++ [[b21], [b15], [b9], [b0_3], M])) := pick_sub [some 0, some 1, some 2, some 3, some 4, some 5] _ rfl
  have hst := hst0.res hsn
  replace hf3_1 := he25.box hf3_1 ((MS.outs (P := []) hpk2 3 rfl) _ (List.mem_singleton.2 rfl))
  replace hf3_2 := hf3_2.step hst
  replace hf7_1 := hf7_1.step hst
  replace hb9 := he25.box hb9 ((MS.outs (P := []) hpk2 2 rfl) _ (List.mem_singleton.2 rfl))
  replace hf13_1 := hf13_1.step hst
  replace hb15 := he25.box hb15 ((MS.outs (P := []) hpk2 1 rfl) _ (List.mem_singleton.2 rfl))
  replace hf19_1 := hf19_1.step hst
  replace hb21 := he25.box hb21 ((MS.outs (P := []) hpk2 0 rfl) _ (List.mem_singleton.2 rfl))
  replace hms : MS w25 [blk a0_25, [b21], [b15], [b9], [b0_3], M] := (MS.call (P := []) (R := [[b21], [b15], [b9], [b0_3], M]) (res := [blk a0_25]) (par := []) hpk2 he25 hmn25 hfn25 (NP.init _ _)).pick [some 0, some 1, some 2, some 3, some 4, some 5] _ rfl
  have hfr2 : FR w.heap.size [blk a0_25, [b21], [b15], [b9], [b0_3]] := (FR.cons (fun b hb => Nat.le_trans hev.size (hfn25.at 0 rfl b hb)) (FR.cons (hfr.at 0 rfl) (FR.cons (hfr.at 1 rfl) (FR.cons (hfr.at 2 rfl) (FR.cons (hfr.at 3 rfl) (FR.nil _))))))
  replace hev := hev.ext he25
  replace hfr := hfr2
  clear hfr2
  replace hf25_1 := OwnS.plain (M' := fl [blk a0_25, [b21], [b15], [b9], [b0_3], M]) (plain_int _) hf25_1
  clear hpk hsb hsb0 hpk2 hsb2 hst0 hsn hst
  have hpk : MS w25 [[b21], [b15], [b9], [b0_3], M] := hms.pick [some 1, some 2, some 3, some 4, some 5] _ rfl
  have hsu : ∀ x ∈ fl [[b21], [b15], [b9], [b0_3], M], x ∈ fl [blk a0_25, [b21], [b15], [b9], [b0_3], M] := pick_sub [some 1, some 2, some 3, some 4, some 5] _ rfl
  replace hf3_2 := hf3_2.sub hsu
  replace hf7_1 := hf7_1.sub hsu
  replace hf13_1 := hf13_1.sub hsu
  replace hf19_1 := hf19_1.sub hsu
  replace hf25_1 := hf25_1.ro hsu (pick_out hms 0 rfl [some 1, some 2, some 3, some 4, some 5] [[b21], [b15], [b9], [b0_3], M] rfl rfl)
  replace hms := hpk
  replace hfr : FR w.heap.size [[b21], [b15], [b9], [b0_3]] := hfr.pick [some 1, some 2, some 3, some 4] _ rfl
  clear hpk hsu
  refine x_pure 5 [(31, .tuple #[.slice a0_25 (x24.1).length c0_25, .int .i64 x24.2]), (35, .slice a0_25 (x24.1).length c0_25), (36, .int .i64 x24.2), (8, .slice a0_25 (x24.1).length c0_25), (9, .int .i64 x24.2)] _ _ _ (by kernel_rfl) ?_
  refine x_end rfl (k_then ?_)
  refine c_seq (c_plain ?_)
  refine x_pure 1 [(10, .int .i64 0)] _ _ _ (by kernel_rfl) ?_
  refine x_end rfl (k_then ?_)
  refine c_seq (c_plain ?_)
  refine x_fieldAddr (xv := .pointer (some ⟨b15, 0, none⟩)) (.pointer (some ⟨b15, 0, none⟩)) rfl rfl rfl (reads_field tfld30_0 _ _) ?_
  refine x_load (xv := .pointer (some ⟨b15, 0, none⟩)) (.int .i64 x12.1.1) rfl rfl rfl (reads_box tcell3 hb15 nn 0 _ rfl) ?_
  have hg := guard_l h
  replace h := guard_r h
  obtain ⟨a27, c27, w27, hr27, he27, hn27, hw27⟩ := own_make (e := (eInt .i64)) tel22 w25 x12.1.1 hg.1 hg.2 0 (fun _ _ => rfl)
  refine x_makeSlice _ w27 (xv := .int .i64 x12.1.1) (yv := .int .i64 x12.1.1) rfl rfl rfl rfl hr27 ?_
  refine ⟨.inl rfl, ?_⟩
  have hst := Stp.push (ls := [[b21], [b15], [b9], [b0_3], M]) (l := blk a27) he27 (fun _ h => by cases h) (fun b hb => (hn27 b hb).1)
  replace hf3_1 := he27.box hf3_1 nn
  replace hf3_2 := hf3_2.step hst
  replace hf7_1 := hf7_1.step hst
  replace hb9 := he27.box hb9 nn
  replace hf13_1 := hf13_1.step hst
  replace hb15 := he27.box hb15 nn
  replace hf19_1 := hf19_1.step hst
  replace hb21 := he27.box hb21 nn
  replace hf25_1 := hf25_1.step hst
  replace hms := hms.push he27 hn27
  replace hfr := hfr.push (fun b hb => Nat.le_trans hev.size (hn27 b hb).1)
  replace hev := hev.ext he27
  have ho27 := hw27 (fl [blk a27, [b21], [b15], [b9], [b0_3], M])
  clear hw27
  refine x_pure 1 [(11, .slice a27 ((List.replicate (Int.toNat x12.1.1) 0 : List Int)).length c27)] _ _ _ (by kernel_rfl) ?_
  refine x_end rfl (k_then ?_)
  refine c_seq ?_
  refine c_seq (c_plain ?_)
  refine x_fieldAddr (xv := .pointer (some ⟨b15, 0, none⟩)) (.pointer (some ⟨b15, 1, none⟩)) rfl rfl rfl (reads_field tfld30_1 _ _) ?_
  refine x_load (xv := .pointer (some ⟨b15, 1, none⟩)) (.slice a0_13 (x12.1.2).length c0_13) rfl rfl rfl (reads_box tcell22 hb15 nn 1 _ rfl) ?_
  refine x_len (vs := [.slice a0_13 (x12.1.2).length c0_13]) (.int .i64 ((x12.1.2).length : Int)) rfl rfl rfl (reads_len tsl22 _ _ _ _ _) ?_
  refine x_pure 1 [(43, .int .i64 0)] _ _ _ (by kernel_rfl) ?_
  refine x_end rfl (k_then ?_)
  refine c_norm [(4, .pointer (some ⟨b9, 0, none⟩)), (5, .pointer (some ⟨b15, 0, none⟩)), (6, .pointer (some ⟨b21, 0, none⟩)), (7, .int .i64 x18.2), (8, .slice a0_25 (x24.1).length c0_25), (9, .int .i64 x24.2), (10, .int .i64 0), (11, .slice a27 ((List.replicate (Int.toNat x12.1.1) 0 : List Int)).length c27), (41, .slice a0_13 (x12.1.2).length c0_13), (42, .int .i64 ((x12.1.2).length : Int)), (43, .int .i64 0)] ⟨rfl, rfl, rfl, rfl, rfl, rfl, rfl, rfl, rfl, rfl, rfl, trivial⟩ (fun J => ?_)
  refine c_block ?_
  have hpk : MS w27 [[b9], [b15], [b21], blk a27, M] := hms.pick [some 3, some 2, some 1, some 0, some 5] _ rfl
  have hsu : ∀ x ∈ fl [[b9], [b15], [b21], blk a27, M], x ∈ fl [blk a27, [b21], [b15], [b9], [b0_3], M] := pick_sub [some 3, some 2, some 1, some 0, some 5] _ rfl
  replace hf7_1 := hf7_1.sub hsu
  replace hf13_1 := hf13_1.sub hsu
  replace hf19_1 := hf19_1.sub hsu
  replace hf25_1 := hf25_1.sub hsu
  replace ho27 := ho27.sub hsu
  replace hms := hpk
  replace hfr : FR w.heap.size [[b9], [b15], [b21], blk a27] := hfr.pick [some 3, some 2, some 1, some 0] _ rfl
  clear hpk hsu
  obtain ⟨d30, hd30, h30⟩ := bind_some h
  obtain ⟨m30, hd30⟩ := loop_some hd30
  refine c_loop (loop_rule hmx (σ := Nat × Int × (List Int) × Int × Option Addr) (fun s => match s with | (_, moves_s10_l30, d28_l30, t43__s43_l30, a28_l30) => [(4, .pointer (some ⟨b9, 0, none⟩)), (5, .pointer (some ⟨b15, 0, none⟩)), (6, .pointer (some ⟨b21, 0, none⟩)), (7, .int .i64 x18.2), (8, .slice a0_25 (x24.1).length c0_25), (9, .int .i64 x24.2), (10, .int .i64 moves_s10_l30), (11, .slice a28_l30 (d28_l30).length c27), (41, .slice a0_13 (x12.1.2).length c0_13), (42, .int .i64 ((x12.1.2).length : Int)), (43, .int .i64 t43__s43_l30)]) (fun s w' => match s with | (m, moves_s10_l30, d28_l30, t43__s43_l30, a28_l30) => loopN (law14_RollinMoves_L30 x6 x12) m (moves_s10_l30, d28_l30, t43__s43_l30) = some d30 ∧ Ev [] w w' ∧ MS w' [[b9], [b15], [b21], blk a28_l30, M] ∧ FR w.heap.size [[b9], [b15], [b21], blk a28_l30] ∧ SlR (eProd (eInt .i64) (eProd (eInt .i64) (eProd (eInt .i64) (eInt .i64)))) w' (fl [[b9], [b15], [b21], blk a28_l30, M]) a0_7 c0_7 x6.1.1 ∧ w'.heap[b9]? = some (.cells #[.slice a0_7 (x6.1.1).length c0_7, .int .i64 x6.1.2] 27 (0, 0)) ∧ SlR (eInt .i64) w' (fl [[b9], [b15], [b21], blk a28_l30, M]) a0_13 c0_13 x12.1.2 ∧ w'.heap[b15]? = some (.cells #[.int .i64 x12.1.1, .slice a0_13 (x12.1.2).length c0_13] 30 (0, 0)) ∧ SlR (eSl (eInt .i64)) w' (fl [[b9], [b15], [b21], blk a28_l30, M]) a0_19 c0_19 x18.1.1 ∧ w'.heap[b21]? = some (.cells #[.slice a0_19 (x18.1.1).length c0_19, .int .i64 x18.1.2] 34 (0, 0)) ∧ SlR (eInt .i64) w' (fl [[b9], [b15], [b21], blk a28_l30, M]) a0_25 c0_25 x24.1 ∧ OwnS (eInt .i64) 3 w' (fl [[b9], [b15], [b21], blk a28_l30, M]) a28_l30 c27 d28_l30) (fun s => s.1) (m30, 0, (List.replicate (Int.toNat x12.1.1) 0 : List Int), 0, a27) ⟨rfl, rfl, rfl, rfl, rfl, rfl, rfl, rfl, rfl, rfl, rfl, trivial⟩ ⟨hd30, hev, hms, hfr, hf7_1, hb9, hf13_1, hb15, hf19_1, hb21, hf25_1, ho27⟩ ?_)
  rintro ⟨m30, moves_s10_l30, d28_l30, t43__s43_l30, a28_l30⟩ J wl30 ⟨hn30, hev, hms, hfr, hf7_1, hb9, hf13_1, hb15, hf19_1, hb21, hf25_1, ho27⟩
  rcases m30 with _ | m30
  · exact (loopN_zero hn30).elim
  obtain ⟨t30, h, hn30⟩ := bind_some hn30
  refine c_seq (c_plain ?_)
  refine x_pure 1 [(44, .bool (decide (t43__s43_l30 < ((x12.1.2).length : Int))))] _ _ _ (by kernel_rfl) ?_
  refine x_end rfl (k_then ?_)
  refine c_norm [(4, .pointer (some ⟨b9, 0, none⟩)), (5, .pointer (some ⟨b15, 0, none⟩)), (6, .pointer (some ⟨b21, 0, none⟩)), (7, .int .i64 x18.2), (8, .slice a0_25 (x24.1).length c0_25), (9, .int .i64 x24.2), (10, .int .i64 moves_s10_l30), (11, .slice a28_l30 (d28_l30).length c27), (41, .slice a0_13 (x12.1.2).length c0_13), (42, .int .i64 ((x12.1.2).length : Int)), (43, .int .i64 t43__s43_l30), (44, .bool (decide (t43__s43_l30 < ((x12.1.2).length : Int))))] ⟨rfl, rfl, rfl, rfl, rfl, rfl, rfl, rfl, rfl, rfl, rfl, rfl, trivial⟩ (fun J => ?_)
  refine c_seq ?_
  refine c_cond (decide (t43__s43_l30 < ((x12.1.2).length : Int))) rfl (fun hb => ?_) (fun hb => ?_)
  · replace h := ite_t hb h
    refine c_skip ?_
    refine k_then ?_
    refine c_seq ?_
    refine c_block ?_
    refine c_seq (c_plain ?_)
    refine x_pure 1 [(45, .int .i64 t43__s43_l30)] _ _ _ (by kernel_rfl) ?_
    obtain ⟨x32, hx32, h⟩ := bind_some h
    obtain ⟨ad32, cs32, hr32, hc32, hR⟩ := reads_index (Mo := []) tsl22 hf13_1 hx32
    obtain rfl := hR
    refine x_indexAddr (xv := .slice a0_13 (x12.1.2).length c0_13) (yv := .int .i64 t43__s43_l30) (.pointer (some ad32)) rfl rfl rfl rfl hr32 ?_
    refine x_load (xv := .pointer (some ad32)) (.int .i64 x32) rfl rfl rfl (reads_cell0 tcell3 hc32 (fun _ h => by cases h)) ?_
    refine x_pure 2 [(12, .int .i64 t43__s43_l30), (13, .int .i64 x32)] _ _ _ (by kernel_rfl) ?_
    refine x_end rfl (k_then ?_)
    refine c_seq (c_plain ?_)
    refine x_pure 1 [(49, .int .i64 x32)] _ _ _ (by kernel_rfl) ?_
    refine x_fieldAddr (xv := .pointer (some ⟨b9, 0, none⟩)) (.pointer (some ⟨b9, 0, none⟩)) rfl rfl rfl (reads_field tfld27_0 _ _) ?_
    refine x_load (xv := .pointer (some ⟨b9, 0, none⟩)) (.slice a0_7 (x6.1.1).length c0_7) rfl rfl rfl (reads_box tcell25 hb9 nn 0 _ rfl) ?_
    refine x_pure 1 [(52, .int .i64 t43__s43_l30)] _ _ _ (by kernel_rfl) ?_
    obtain ⟨x34, hx34, h⟩ := bind_some h
    obtain ⟨ad34, cs34, hr34, hc34, hR⟩ := reads_index (Mo := []) tsl25 hf7_1 hx34
    obtain ⟨_, _, rfl, rfl, ⟨_, _, rfl, rfl, ⟨_, _, rfl, rfl, rfl⟩⟩⟩ := hR
    refine x_indexAddr (xv := .slice a0_7 (x6.1.1).length c0_7) (yv := .int .i64 t43__s43_l30) (.pointer (some ad34)) rfl rfl rfl rfl hr34 ?_
    refine x_fieldAddr (xv := .pointer (some ad34)) (.pointer (some (Addr.add ad34 2))) rfl rfl rfl (reads_field tfld39_2 _ _) ?_
    refine x_load (xv := .pointer (some (Addr.add ad34 2))) (.int .i64 x34.2.2.1) rfl rfl rfl (reads_cell tcell3 hc34 (fun _ h => by cases h) 2 _ rfl) ?_
    obtain ⟨x36, hx, h⟩ := bind_some h
    have hpk : MS wl30 ([] ++ [[b9], [b15], [b21], blk a28_l30, M]) := hms.pick [some 0, some 1, some 2, some 3, some 4] _ rfl
    have hsb0 : ∀ x ∈ fl ([] ++ [[b9], [b15], [b21], blk a28_l30, M]), x ∈ fl [[b9], [b15], [b21], blk a28_l30, M] := pick_sub [some 0, some 1, some 2, some 3, some 4] _ rfl
    have hsb : ∀ x ∈ fl ([] ++ [(fl [[b9], [b15], [b21], blk a28_l30, M])]), x ∈ fl [[b9], [b15], [b21], blk a28_l30, M] := fun x hx => hsb0 x (fl_unfold x hx)
    have hcall := r12_Real_w x32 x34.2.2.1 _ wl30 (fl [[b9], [b15], [b21], blk a28_l30, M]) (MS.fold (P := []) hpk)  hx
    refine x_call 18 #[] #[] [.int .i64 x32, .int .i64 x34.2.2.1] _ rfl rfl rfl rfl hcall ?_
    rintro v w37 ⟨a0_37, c0_37, rfl, he37, hmn37, hfn37, hf37_1⟩
    clear hcall hx
    refine ⟨.inl rfl, ?_⟩
    have hpk2 : MS wl30 ([] ++ [[b9], [b15], [b21], blk a28_l30, M]) := hms.pick [some 0, some 1, some 2, some 3, some 4] _ rfl
    have hsb2 : ∀ x ∈ fl ([] ++ [[b9], [b15], [b21], blk a28_l30, M]), x ∈ fl [[b9], [b15], [b21], blk a28_l30, M] := pick_sub [some 0, some 1, some 2, some 3, some 4] _ rfl
    have hst0 := Stp.call (LS := [[b9], [b15], [b21], blk a28_l30, M]) (res := [blk a0_37]) (par := []) (R := [[b9], [b15], [b21], blk a28_l30, M]) he37 (fun b hb => hsb2 b (fl_left' (P := []) b hb)) hfn37 (NP.init _ _) (fun x hx => hsb2 x (fl_right' (P := []) x hx))
    have hsn : ∀ x ∈ fl [blk a0_37, [b9], [b15], [b21], blk a28_l30, M], x ∈ fl ([blk a0_37] ++ ([] ++ [[b9], [b15], [b21], blk a28_l30, M])) := pick_sub [some 0, some 1, some 2, some 3, some 4, some 5] _ rfl
    have hst := hst0.res hsn
    replace hb9 := he37.box hb9 ((MS.outs (P := []) hpk2 0 rfl) _ (List.mem_singleton.2 rfl))
    replace hf7_1 := hf7_1.step hst
    replace hb15 := he37.box hb15 ((MS.outs (P := []) hpk2 1 rfl) _ (List.mem_singleton.2 rfl))
    replace hf13_1 := hf13_1.step hst
    replace hb21 := he37.box hb21 ((MS.outs (P := []) hpk2 2 rfl) _ (List.mem_singleton.2 rfl))
    replace hf19_1 := hf19_1.step hst
    replace hf25_1 := hf25_1.step hst
    replace ho27 := ho27.step hst he37 (MS.outs (P := []) hpk2 3 rfl)
    replace hc34 := hc34.step hst
    replace hms : MS w37 [blk a0_37, [b9], [b15], [b21], blk a28_l30, M] := (MS.call (P := []) (R := [[b9], [b15], [b21], blk a28_l30, M]) (res := [blk a0_37]) (par := []) hpk2 he37 hmn37 hfn37 (NP.init _ _)).pick [some 0, some 1, some 2, some 3, some 4, some 5] _ rfl
    have hfr2 : FR w.heap.size [blk a0_37, [b9], [b15], [b21], blk a28_l30] := (FR.cons (fun b hb => Nat.le_trans hev.size (hfn37.at 0 rfl b hb)) (FR.cons (hfr.at 0 rfl) (FR.cons (hfr.at 1 rfl) (FR.cons (hfr.at 2 rfl) (FR.cons (hfr.at 3 rfl) (FR.nil _))))))
    replace hev := hev.ext he37
    replace hfr := hfr2
    clear hfr2
    replace hf37_1 := OwnS.plain (M' := fl [blk a0_37, [b9], [b15], [b21], blk a28_l30, M]) (plain_int _) hf37_1
    clear hpk hsb hsb0 hpk2 hsb2 hst0 hsn hst
    have hpk : MS w37 [[b9], [b15], [b21], blk a28_l30, M] := hms.pick [some 1, some 2, some 3, some 4, some 5] _ rfl
    have hsu : ∀ x ∈ fl [[b9], [b15], [b21], blk a28_l30, M], x ∈ fl [blk a0_37, [b9], [b15], [b21], blk a28_l30, M] := pick_sub [some 1, some 2, some 3, some 4, some 5] _ rfl
    replace hf7_1 := hf7_1.sub hsu
    replace hf13_1 := hf13_1.sub hsu
    replace hf19_1 := hf19_1.sub hsu
    replace hf25_1 := hf25_1.sub hsu
    replace ho27 := ho27.sub hsu
    replace hc34 := hc34.sub hsu
    replace hf37_1 := hf37_1.ro hsu (pick_out hms 0 rfl [some 1, some 2, some 3, some 4, some 5] [[b9], [b15], [b21], blk a28_l30, M] rfl rfl)
    replace hms := hpk
    replace hfr : FR w.heap.size [[b9], [b15], [b21], blk a28_l30] := hfr.pick [some 1, some 2, some 3, some 4] _ rfl
    clear hpk hsu
    refine x_pure 5 [(48, .tuple #[.slice a0_37 (x36.1).length c0_37, .int .i64 x36.2]), (57, .slice a0_37 (x36.1).length c0_37), (58, .int .i64 x36.2), (14, .slice a0_37 (x36.1).length c0_37), (15, .int .i64 x36.2)] _ _ _ (by kernel_rfl) ?_
    refine x_end rfl (k_then ?_)
    refine c_norm [(4, .pointer (some ⟨b9, 0, none⟩)), (5, .pointer (some ⟨b15, 0, none⟩)), (6, .pointer (some ⟨b21, 0, none⟩)), (7, .int .i64 x18.2), (8, .slice a0_25 (x24.1).length c0_25), (9, .int .i64 x24.2), (10, .int .i64 moves_s10_l30), (11, .slice a28_l30 (d28_l30).length c27), (12, .int .i64 t43__s43_l30), (14, .slice a0_37 (x36.1).length c0_37), (41, .slice a0_13 (x12.1.2).length c0_13), (42, .int .i64 ((x12.1.2).length : Int)), (43, .int .i64 t43__s43_l30)] ⟨rfl, rfl, rfl, rfl, rfl, rfl, rfl, rfl, rfl, rfl, rfl, rfl, rfl, trivial⟩ (fun J => ?_)
    refine c_seq (c_plain ?_)
    refine x_pure 2 [(59, .int .i64 moves_s10_l30), (60, .slice a0_37 (x36.1).length c0_37)] _ _ _ (by kernel_rfl) ?_
    refine x_len (vs := [.slice a0_37 (x36.1).length c0_37]) (.int .i64 ((x36.1).length : Int)) rfl rfl rfl (reads_len tsl22 _ _ _ _ _) ?_
    refine x_pure 3 [(62, .int .i64 (IntKind.i64.wrap (1 + ((x36.1).length : Int)))), (63, .int .i64 (IntKind.i64.wrap (moves_s10_l30 + (IntKind.i64.wrap (1 + ((x36.1).length : Int)))))), (10, .int .i64 (IntKind.i64.wrap (moves_s10_l30 + (IntKind.i64.wrap (1 + ((x36.1).length : Int))))))] _ _ _ (by kernel_rfl) ?_
    refine x_end rfl (k_then ?_)
    refine c_seq (c_plain ?_)
    refine x_pure 1 [(64, .slice a0_37 (x36.1).length c0_37)] _ _ _ (by kernel_rfl) ?_
    refine x_len (vs := [.slice a0_37 (x36.1).length c0_37]) (.int .i64 ((x36.1).length : Int)) rfl rfl rfl (reads_len tsl22 _ _ _ _ _) ?_
    refine x_pure 1 [(66, .int .i64 0)] _ _ _ (by kernel_rfl) ?_
    refine x_end rfl (k_then ?_)
    refine c_block ?_
    obtain ⟨d39, hd39, h39⟩ := bind_some h
    obtain ⟨m39, hd39⟩ := loop_some hd39
    refine c_loop (loop_rule hmx (σ := Nat × (List Int) × Int × Option Addr) (fun s => match s with | (_, d28_l39, t66__s66_l39, a28_l39) => [(4, .pointer (some ⟨b9, 0, none⟩)), (5, .pointer (some ⟨b15, 0, none⟩)), (6, .pointer (some ⟨b21, 0, none⟩)), (7, .int .i64 x18.2), (8, .slice a0_25 (x24.1).length c0_25), (9, .int .i64 x24.2), (10, .int .i64 (IntKind.i64.wrap (moves_s10_l30 + (IntKind.i64.wrap (1 + ((x36.1).length : Int)))))), (11, .slice a28_l39 (d28_l39).length c27), (12, .int .i64 t43__s43_l30), (41, .slice a0_13 (x12.1.2).length c0_13), (42, .int .i64 ((x12.1.2).length : Int)), (43, .int .i64 t43__s43_l30), (64, .slice a0_37 (x36.1).length c0_37), (65, .int .i64 ((x36.1).length : Int)), (66, .int .i64 t66__s66_l39)]) (fun s w' => match s with | (m, d28_l39, t66__s66_l39, a28_l39) => loopN (law14_RollinMoves_L39 x6 t43__s43_l30 x36) m (d28_l39, t66__s66_l39) = some d39 ∧ Ev [] w w' ∧ MS w' [[b9], [b15], [b21], blk a28_l39, M] ∧ FR w.heap.size [[b9], [b15], [b21], blk a28_l39] ∧ SlR (eProd (eInt .i64) (eProd (eInt .i64) (eProd (eInt .i64) (eInt .i64)))) w' (fl [[b9], [b15], [b21], blk a28_l39, M]) a0_7 c0_7 x6.1.1 ∧ w'.heap[b9]? = some (.cells #[.slice a0_7 (x6.1.1).length c0_7, .int .i64 x6.1.2] 27 (0, 0)) ∧ SlR (eInt .i64) w' (fl [[b9], [b15], [b21], blk a28_l39, M]) a0_13 c0_13 x12.1.2 ∧ w'.heap[b15]? = some (.cells #[.int .i64 x12.1.1, .slice a0_13 (x12.1.2).length c0_13] 30 (0, 0)) ∧ SlR (eSl (eInt .i64)) w' (fl [[b9], [b15], [b21], blk a28_l39, M]) a0_19 c0_19 x18.1.1 ∧ w'.heap[b21]? = some (.cells #[.slice a0_19 (x18.1.1).length c0_19, .int .i64 x18.1.2] 34 (0, 0)) ∧ SlR (eInt .i64) w' (fl [[b9], [b15], [b21], blk a28_l39, M]) a0_25 c0_25 x24.1 ∧ OwnS (eInt .i64) 3 w' (fl [[b9], [b15], [b21], blk a28_l39, M]) a28_l39 c27 d28_l39 ∧ SlR (eInt .i64) w' (fl [[b9], [b15], [b21], blk a28_l39, M]) a0_37 c0_37 x36.1) (fun s => s.1) (m39, d28_l30, 0, a28_l30) ⟨rfl, rfl, rfl, rfl, rfl, rfl, rfl, rfl, rfl, rfl, rfl, rfl, rfl, rfl, rfl, trivial⟩ ⟨hd39, hev, hms, hfr, hf7_1, hb9, hf13_1, hb15, hf19_1, hb21, hf25_1, ho27, hf37_1⟩ ?_)
    rintro ⟨m39, d28_l39, t66__s66_l39, a28_l39⟩ J wl39 ⟨hn39, hev, hms, hfr, hf7_1, hb9, hf13_1, hb15, hf19_1, hb21, hf25_1, ho27, hf37_1⟩
    rcases m39 with _ | m39
    · exact (loopN_zero hn39).elim
    obtain ⟨t39, h, hn39⟩ := bind_some hn39
    refine c_seq (c_plain ?_)
    refine x_pure 1 [(67, .bool (decide (t66__s66_l39 < ((x36.1).length : Int))))] _ _ _ (by kernel_rfl) ?_
    refine x_end rfl (k_then ?_)
    refine c_norm [(4, .pointer (some ⟨b9, 0, none⟩)), (5, .pointer (some ⟨b15, 0, none⟩)), (6, .pointer (some ⟨b21, 0, none⟩)), (7, .int .i64 x18.2), (8, .slice a0_25 (x24.1).length c0_25), (9, .int .i64 x24.2), (10, .int .i64 (IntKind.i64.wrap (moves_s10_l30 + (IntKind.i64.wrap (1 + ((x36.1).length : Int)))))), (11, .slice a28_l39 (d28_l39).length c27), (12, .int .i64 t43__s43_l30), (41, .slice a0_13 (x12.1.2).length c0_13), (42, .int .i64 ((x12.1.2).length : Int)), (43, .int .i64 t43__s43_l30), (64, .slice a0_37 (x36.1).length c0_37), (65, .int .i64 ((x36.1).length : Int)), (66, .int .i64 t66__s66_l39), (67, .bool (decide (t66__s66_l39 < ((x36.1).length : Int))))] ⟨rfl, rfl, rfl, rfl, rfl, rfl, rfl, rfl, rfl, rfl, rfl, rfl, rfl, rfl, rfl, rfl, trivial⟩ (fun J => ?_)
    refine c_seq ?_
    refine c_cond (decide (t66__s66_l39 < ((x36.1).length : Int))) rfl (fun hb => ?_) (fun hb => ?_)
    · replace h := ite_t hb h
      refine c_skip ?_
      refine k_then ?_
      refine c_seq ?_
      refine c_block ?_
      refine c_seq (c_plain ?_)
      obtain ⟨x41, hx41, h⟩ := bind_some h
      obtain ⟨ad41, cs41, hr41, hc41, hR⟩ := reads_index (Mo := []) tsl22 hf37_1 hx41
      obtain rfl := hR
      refine x_indexAddr (xv := .slice a0_37 (x36.1).length c0_37) (yv := .int .i64 t66__s66_l39) (.pointer (some ad41)) rfl rfl rfl rfl hr41 ?_
      refine x_load (xv := .pointer (some ad41)) (.int .i64 x41) rfl rfl rfl (reads_cell0 tcell3 hc41 (fun _ h => by cases h)) ?_
      refine x_pure 1 [(17, .int .i64 x41)] _ _ _ (by kernel_rfl) ?_
      refine x_end rfl (k_then ?_)
      refine c_drawn [] [(0, false), (1, false), (2, false), (3, false), (4, false), (5, false), (6, false), (7, false), (8, false), (9, false), (10, false), (11, false), (12, true)] _ (by kernel_rfl) rfl ?_
      have hst := Stp.ext (ls := [[b9], [b15], [b21], blk a28_l39, M]) (Ev.drew wl39)
      replace hb9 := (Ev.drew wl39).box hb9 nn
      replace hf7_1 := hf7_1.step hst
      replace hb15 := (Ev.drew wl39).box hb15 nn
      replace hf13_1 := hf13_1.step hst
      replace hb21 := (Ev.drew wl39).box hb21 nn
      replace hf19_1 := hf19_1.step hst
      replace hf25_1 := hf25_1.step hst
      replace ho27 := ho27.step hst (Ev.drew wl39) nn2
      replace hf37_1 := hf37_1.step hst
      replace hms := hms.ev (Ev.drew wl39)
      replace hev := hev.ext (Ev.drew wl39)
      refine x_pure 2 [(70, .slice a28_l39 (d28_l39).length c27), (71, .int .i64 x41)] _ _ _ (by kernel_rfl) ?_
      obtain ⟨x43, hx43, h⟩ := bind_some h
      obtain ⟨g43, cs43, ha, hr43, hc43, hR⟩ := own_index (Mo := []) tsl22 ho27 hx43
      subst ha
      obtain rfl := hR
      refine x_indexAddr (xv := .slice (some ⟨g43, 0, none⟩) (d28_l39).length c27) (yv := .int .i64 x41) (.pointer (some ⟨g43, (Int.toNat x41) * (eInt .i64).n, none⟩)) rfl rfl rfl rfl hr43 ?_
      refine x_load (xv := .pointer (some ⟨g43, (Int.toNat x41) * (eInt .i64).n, none⟩)) (.int .i64 x43) rfl rfl rfl (reads_cell0 tcell3 hc43 (fun _ h => by cases h)) ?_
      refine x_fieldAddr (xv := .pointer (some ⟨b9, 0, none⟩)) (.pointer (some ⟨b9, 0, none⟩)) rfl rfl rfl (reads_field tfld27_0 _ _) ?_
      refine x_load (xv := .pointer (some ⟨b9, 0, none⟩)) (.slice a0_7 (x6.1.1).length c0_7) rfl rfl rfl (reads_box tcell25 hb9 nn 0 _ rfl) ?_
      refine x_pure 1 [(76, .int .i64 t43__s43_l30)] _ _ _ (by kernel_rfl) ?_
      obtain ⟨x45, hx45, h⟩ := bind_some h
      obtain ⟨ad45, cs45, hr45, hc45, hR⟩ := reads_index (Mo := []) tsl25 hf7_1 hx45
      obtain ⟨_, _, rfl, rfl, ⟨_, _, rfl, rfl, ⟨_, _, rfl, rfl, rfl⟩⟩⟩ := hR
      refine x_indexAddr (xv := .slice a0_7 (x6.1.1).length c0_7) (yv := .int .i64 t43__s43_l30) (.pointer (some ad45)) rfl rfl rfl rfl hr45 ?_
      refine x_fieldAddr (xv := .pointer (some ad45)) (.pointer (some (Addr.add ad45 3))) rfl rfl rfl (reads_field tfld39_3 _ _) ?_
      refine x_load (xv := .pointer (some (Addr.add ad45 3))) (.int .i64 x45.2.2.2) rfl rfl rfl (reads_cell tcell3 hc45 (fun _ h => by cases h) 3 _ rfl) ?_
      refine x_pure 1 [(80, .int .i64 (IntKind.i64.wrap (x43 + x45.2.2.2)))] _ _ _ (by kernel_rfl) ?_
      obtain ⟨x47, hx47, h⟩ := bind_some h
      obtain ⟨g47, cs47, ha, hr47, hc47, hR⟩ := own_index (Mo := []) tsl22 ho27 hx47
      have hg : g43 = g47 := by cases ha; rfl
      subst hg
      obtain rfl := hR
      refine x_indexAddr (xv := .slice (some ⟨g43, 0, none⟩) (d28_l39).length c27) (yv := .int .i64 x41) (.pointer (some ⟨g43, (Int.toNat x41) * (eInt .i64).n, none⟩)) rfl rfl rfl rfl hr47 ?_
      obtain ⟨w49, hr49, he49, ho49⟩ := own_store (y := IntKind.i64.wrap (x43 + x45.2.2.2)) 0 (.int .i64 (IntKind.i64.wrap (x43 + x45.2.2.2))) tcell3 ho27 (mem_flat 3 rfl _ (List.mem_singleton.2 rfl)) hx47 rfl rfl (fun _ _ _ _ => by simp_all [eInt, eBool])
      refine x_store w49 (xv := .pointer (some ⟨g43, (Int.toNat x41) * (eInt .i64).n, none⟩)) (yv := .int .i64 (IntKind.i64.wrap (x43 + x45.2.2.2))) rfl rfl rfl rfl hr49 ?_
      refine ⟨.inl rfl, ?_⟩
      have hst := Stp.ev' (ls := [[b9], [b15], [b21], blk (some ⟨g43, 0, none⟩), M]) he49 (mem_flat 3 rfl)
      replace hb9 := he49.box hb9 (hms.apart 0 3 rfl rfl rfl _ (List.mem_singleton.2 rfl))
      replace hf7_1 := hf7_1.step hst
      replace hb15 := he49.box hb15 (hms.apart 1 3 rfl rfl rfl _ (List.mem_singleton.2 rfl))
      replace hf13_1 := hf13_1.step hst
      replace hb21 := he49.box hb21 (hms.apart 2 3 rfl rfl rfl _ (List.mem_singleton.2 rfl))
      replace hf19_1 := hf19_1.step hst
      replace hf25_1 := hf25_1.step hst
      replace hf37_1 := hf37_1.step hst
      replace hc45 := hc45.step hst
      replace hms := hms.ev he49
      replace hev := hev.then he49 (fun b hb => .inr (hfr.at 3 rfl b hb))
      replace ho27 := ho49
      have hsl : (Value.slice (some ⟨g43, 0, none⟩) (d28_l39).length c27) = (Value.slice (some ⟨g43, 0, none⟩) ((d28_l39.set (Int.toNat x41) (IntKind.i64.wrap (x43 + x45.2.2.2)))).length c27) := by rw [List.length_set]
      try rw [hsl]
      clear hsl
      refine x_end rfl ?_
      refine k_block ?_
      refine k_then ?_
      refine c_norm [(4, .pointer (some ⟨b9, 0, none⟩)), (5, .pointer (some ⟨b15, 0, none⟩)), (6, .pointer (some ⟨b21, 0, none⟩)), (7, .int .i64 x18.2), (8, .slice a0_25 (x24.1).length c0_25), (9, .int .i64 x24.2), (10, .int .i64 (IntKind.i64.wrap (moves_s10_l30 + (IntKind.i64.wrap (1 + ((x36.1).length : Int)))))), (11, .slice (some ⟨g43, 0, none⟩) ((d28_l39.set (Int.toNat x41) (IntKind.i64.wrap (x43 + x45.2.2.2)))).length c27), (12, .int .i64 t43__s43_l30), (41, .slice a0_13 (x12.1.2).length c0_13), (42, .int .i64 ((x12.1.2).length : Int)), (43, .int .i64 t43__s43_l30), (64, .slice a0_37 (x36.1).length c0_37), (65, .int .i64 ((x36.1).length : Int)), (66, .int .i64 t66__s66_l39)] ⟨rfl, rfl, rfl, rfl, rfl, rfl, rfl, rfl, rfl, rfl, rfl, rfl, rfl, rfl, rfl, trivial⟩ (fun J => ?_)
      refine c_plain ?_
      refine x_pure 2 [(82, .int .i64 (IntKind.i64.wrap (t66__s66_l39 + 1))), (66, .int .i64 (IntKind.i64.wrap (t66__s66_l39 + 1)))] _ _ _ (by kernel_rfl) ?_
      refine x_end rfl ?_
      have hx := some_inj h
      subst hx
      exact k_then ⟨(m39, (d28_l39.set (Int.toNat x41) (IntKind.i64.wrap (x43 + x45.2.2.2))), IntKind.i64.wrap (t66__s66_l39 + 1), (some ⟨g43, 0, none⟩)), ⟨rfl, rfl, rfl, rfl, rfl, rfl, rfl, rfl, rfl, rfl, rfl, rfl, rfl, rfl, rfl, trivial⟩, ⟨hn39, hev, hms, hfr, hf7_1, hb9, hf13_1, hb15, hf19_1, hb21, hf25_1, ho27, hf37_1⟩, Nat.lt_succ_self _⟩
    replace h := ite_f hb h
    refine c_exit ?_
    refine k_then_exit ?_
    have hx := some_inj h
    subst hx
    have hy := some_inj hn39
    subst hy
    replace h := h39
    refine k_then_exit ?_
    refine k_block_in ?_
    refine k_block ?_
    refine k_then ?_
    refine c_norm [(4, .pointer (some ⟨b9, 0, none⟩)), (5, .pointer (some ⟨b15, 0, none⟩)), (6, .pointer (some ⟨b21, 0, none⟩)), (7, .int .i64 x18.2), (8, .slice a0_25 (x24.1).length c0_25), (9, .int .i64 x24.2), (10, .int .i64 (IntKind.i64.wrap (moves_s10_l30 + (IntKind.i64.wrap (1 + ((x36.1).length : Int)))))), (11, .slice a28_l39 (d28_l39).length c27), (41, .slice a0_13 (x12.1.2).length c0_13), (42, .int .i64 ((x12.1.2).length : Int)), (43, .int .i64 t43__s43_l30)] ⟨rfl, rfl, rfl, rfl, rfl, rfl, rfl, rfl, rfl, rfl, rfl, trivial⟩ (fun J => ?_)
    refine c_plain ?_
    refine x_pure 2 [(83, .int .i64 (IntKind.i64.wrap (t43__s43_l30 + 1))), (43, .int .i64 (IntKind.i64.wrap (t43__s43_l30 + 1)))] _ _ _ (by kernel_rfl) ?_
    refine x_end rfl ?_
    have hx := some_inj h
    subst hx
    exact k_then ⟨(m30, IntKind.i64.wrap (moves_s10_l30 + (IntKind.i64.wrap (1 + ((x36.1).length : Int)))), d28_l39, IntKind.i64.wrap (t43__s43_l30 + 1), a28_l39), ⟨rfl, rfl, rfl, rfl, rfl, rfl, rfl, rfl, rfl, rfl, rfl, trivial⟩, ⟨hn30, hev, hms, hfr, hf7_1, hb9, hf13_1, hb15, hf19_1, hb21, hf25_1, ho27⟩, Nat.lt_succ_self _⟩
  replace h := ite_f hb h
  refine c_exit ?_
  refine k_then_exit ?_
  have hx := some_inj h
  subst hx
  have hy := some_inj hn30
  subst hy
  replace h := h30
  refine k_then_exit ?_
  refine k_block_in ?_
  refine k_then ?_
  refine c_norm [(5, .pointer (some ⟨b15, 0, none⟩)), (6, .pointer (some ⟨b21, 0, none⟩)), (7, .int .i64 x18.2), (8, .slice a0_25 (x24.1).length c0_25), (9, .int .i64 x24.2), (10, .int .i64 moves_s10_l30), (11, .slice a28_l30 (d28_l30).length c27)] ⟨rfl, rfl, rfl, rfl, rfl, rfl, rfl, trivial⟩ (fun J => ?_)
  refine c_seq (c_plain ?_)
  refine x_pure 3 [(84, .int .i64 x18.2), (85, .bool (x18.2 == 0)), (86, .bool (x18.2 == 0))] _ _ _ (by kernel_rfl) ?_
  refine x_split 86 (x18.2 == 0) rfl (fun hb => ?_) (fun hb => ?_)
  · replace h := ite_t hb h
    refine x_pure 4 [(87, .int .i64 x24.2), (88, .bool (x24.2 == 0)), (89, .bool (x24.2 == 0)), (90, .bool (x24.2 == 0))] _ _ _ (by kernel_rfl) ?_
    refine x_split 90 (x24.2 == 0) rfl (fun hb => ?_) (fun hb => ?_)
    · replace h := ite_t hb h
      refine x_fieldAddr (xv := .pointer (some ⟨b21, 0, none⟩)) (.pointer (some ⟨b21, 1, none⟩)) rfl rfl rfl (reads_field tfld34_1 _ _) ?_
      refine x_load (xv := .pointer (some ⟨b21, 1, none⟩)) (.int .i64 x18.1.2) rfl rfl rfl (reads_box tcell3 hb21 nn 1 _ rfl) ?_
      refine x_pure 4 [(93, .int .i64 moves_s10_l30), (94, .bool (x18.1.2 == moves_s10_l30)), (95, .bool (x18.1.2 == moves_s10_l30)), (96, .bool (x18.1.2 == moves_s10_l30))] _ _ _ (by kernel_rfl) ?_
      refine x_split 96 (x18.1.2 == moves_s10_l30) rfl (fun hb => ?_) (fun hb => ?_)
      · replace h := ite_t hb h
        refine x_pure 1 [(97, .slice a0_25 (x24.1).length c0_25)] _ _ _ (by kernel_rfl) ?_
        refine x_len (vs := [.slice a0_25 (x24.1).length c0_25]) (.int .i64 ((x24.1).length : Int)) rfl rfl rfl (reads_len tsl22 _ _ _ _ _) ?_
        refine x_fieldAddr (xv := .pointer (some ⟨b15, 0, none⟩)) (.pointer (some ⟨b15, 0, none⟩)) rfl rfl rfl (reads_field tfld30_0 _ _) ?_
        refine x_load (xv := .pointer (some ⟨b15, 0, none⟩)) (.int .i64 x12.1.1) rfl rfl rfl (reads_box tcell3 hb15 nn 0 _ rfl) ?_
        refine x_pure 3 [(101, .bool (decide (((x24.1).length : Int) ≥ x12.1.1))), (102, .bool (decide (((x24.1).length : Int) ≥ x12.1.1))), (103, .bool (decide (((x24.1).length : Int) ≥ x12.1.1)))] _ _ _ (by kernel_rfl) ?_
        refine x_split 103 (decide (((x24.1).length : Int) ≥ x12.1.1)) rfl (fun hb => ?_) (fun hb => ?_)
        · replace h := ite_t hb h
          refine x_pure 1 [(104, .slice a0_25 (x24.1).length c0_25)] _ _ _ (by kernel_rfl) ?_
          refine x_fieldAddr (xv := .pointer (some ⟨b15, 0, none⟩)) (.pointer (some ⟨b15, 0, none⟩)) rfl rfl rfl (reads_field tfld30_0 _ _) ?_
          refine x_load (xv := .pointer (some ⟨b15, 0, none⟩)) (.int .i64 x12.1.1) rfl rfl rfl (reads_box tcell3 hb15 nn 0 _ rfl) ?_
          have hg := guard_l h
          replace h := guard_r h
          obtain ⟨a50, c50, hr50, hs50⟩ := SlR.sliced (P := Try.prog) (Mo := []) tsl22 hf25_1 none (some x12.1.1) hg
          replace hs50 : SlR (eInt .i64) wl30 (fl [[b9], [b15], [b21], blk a28_l30, M]) a50 c50 ((x24.1.drop (Int.toNat (0 : Int))).take (Int.toNat x12.1.1 - Int.toNat (0 : Int))) := hs50
          refine x_slice (xv := .slice a0_25 (x24.1).length c0_25) (lv := none) (hv := (some (.int .i64 x12.1.1))) (mv := none) (.slice a50 (((x24.1.drop (Int.toNat (0 : Int))).take (Int.toNat x12.1.1 - Int.toNat (0 : Int)))).length c50) rfl rfl rfl rfl rfl rfl hr50 ?_
          refine x_pure 1 [(108, .slice a28_l30 (d28_l30).length c27)] _ _ _ (by kernel_rfl) ?_
          obtain ⟨x52, hx, h⟩ := bind_some h
          have hpk : MS wl30 ([] ++ [[b9], [b15], [b21], M]) := hms.pick [some 0, some 1, some 2, some 4] _ rfl
          have hsb0 : ∀ x ∈ fl ([] ++ [[b9], [b15], [b21], M]), x ∈ fl [[b9], [b15], [b21], blk a28_l30, M] := pick_sub [some 0, some 1, some 2, some 4] _ rfl
          have hsb : ∀ x ∈ fl ([] ++ [(fl [[b9], [b15], [b21], M])]), x ∈ fl [[b9], [b15], [b21], blk a28_l30, M] := fun x hx => hsb0 x (fl_unfold x hx)
          have hcall := gen_Ints_w a50 c50 ((x24.1.drop (Int.toNat (0 : Int))).take (Int.toNat x12.1.1 - Int.toNat (0 : Int))) a28_l30 c27 d28_l30 _ wl30 (fl [[b9], [b15], [b21], M]) (MS.fold (P := []) hpk) (hs50.sub hsb) (ho27.ro hsb (fun b hb hb2 => pick_out hms 3 rfl [some 0, some 1, some 2, some 4] ([] ++ [[b9], [b15], [b21], M]) rfl rfl b hb (fl_unfold b hb2))) hx
          refine x_call 19 #[] #[] [.slice a50 (((x24.1.drop (Int.toNat (0 : Int))).take (Int.toNat x12.1.1 - Int.toNat (0 : Int)))).length c50, .slice a28_l30 (d28_l30).length c27] _ rfl rfl rfl rfl hcall ?_
          rintro v w53 ⟨rfl, he53⟩
          clear hcall hx
          refine ⟨.inl rfl, ?_⟩
          have hst := Stp.ext (ls := [[b9], [b15], [b21], blk a28_l30, M]) he53
          replace hb9 := he53.box hb9 nn
          replace hf7_1 := hf7_1.step hst
          replace hb15 := he53.box hb15 nn
          replace hf13_1 := hf13_1.step hst
          replace hb21 := he53.box hb21 nn
          replace hf19_1 := hf19_1.step hst
          replace hf25_1 := hf25_1.step hst
          replace ho27 := ho27.step hst he53 nn2
          replace hs50 := hs50.step hst
          replace hms := hms.ev he53
          replace hev := hev.ext he53
          clear hpk hsb hsb0
          refine x_pure 2 [(110, .bool x52), (111, .bool x52)] _ _ _ (by kernel_rfl) ?_
          refine x_split 111 x52 rfl (fun hb => ?_) (fun hb => ?_)
          · replace h := ite_t hb h
            obtain ⟨x54, hx, h⟩ := bind_some h
            have hcall := law14_sane_w _ w53 hx
            refine x_call 15 #[] #[] [] _ rfl rfl rfl rfl hcall ?_
            rintro v w55 ⟨rfl, he55⟩
            clear hcall hx
            refine ⟨.inl rfl, ?_⟩
            have hst := Stp.ext (ls := [[b9], [b15], [b21], blk a28_l30, M]) he55
            replace hb9 := he55.box hb9 nn
            replace hf7_1 := hf7_1.step hst
            replace hb15 := he55.box hb15 nn
            replace hf13_1 := hf13_1.step hst
            replace hb21 := he55.box hb21 nn
            replace hf19_1 := hf19_1.step hst
            replace hf25_1 := hf25_1.step hst
            replace ho27 := ho27.step hst he55 nn2
            replace hs50 := hs50.step hst
            replace hms := hms.ev he55
            replace hev := hev.ext he55
            refine x_pure 2 [(113, .bool x54), (2, .bool x54)] _ _ _ (by kernel_rfl) ?_
            refine x_end rfl (k_then ?_)
            refine c_norm [(2, .bool x54)] ⟨rfl, trivial⟩ (fun J => ?_)
            refine c_ret ?_
            refine r_ret (r_vals [.bool x54] ⟨rfl, trivial⟩ ?_)
            have hx := some_inj h
            subst hx
            have hmr : MS w55 [M] := hms.pick [some 4] _ rfl
            have hsu : ∀ x ∈ fl [M], x ∈ fl [[b9], [b15], [b21], blk a28_l30, M] := pick_sub [some 4] _ rfl
            exact ⟨rfl, hev⟩
          replace h := ite_f hb h
          refine x_pure 3 [(112, undef), (113, .bool false), (2, .bool false)] _ _ _ (by kernel_rfl) ?_
          refine x_end rfl (k_then ?_)
          refine c_norm [(2, .bool false)] ⟨rfl, trivial⟩ (fun J => ?_)
          refine c_ret ?_
          refine r_ret (r_vals [.bool false] ⟨rfl, trivial⟩ ?_)
          have hx := some_inj h
          subst hx
          have hmr : MS w53 [M] := hms.pick [some 4] _ rfl
          have hsu : ∀ x ∈ fl [M], x ∈ fl [[b9], [b15], [b21], blk a28_l30, M] := pick_sub [some 4] _ rfl
          exact ⟨rfl, hev⟩
        replace h := ite_f hb h
        refine x_pure 11 [(104, undef), (105, undef), (106, undef), (107, undef), (108, undef), (109, undef), (110, .bool false), (111, .bool false), (112, undef), (113, .bool false), (2, .bool false)] _ _ _ (by kernel_rfl) ?_
        refine x_end rfl (k_then ?_)
        refine c_norm [(2, .bool false)] ⟨rfl, trivial⟩ (fun J => ?_)
        refine c_ret ?_
        refine r_ret (r_vals [.bool false] ⟨rfl, trivial⟩ ?_)
        have hx := some_inj h
        subst hx
        have hmr : MS wl30 [M] := hms.pick [some 4] _ rfl
        have hsu : ∀ x ∈ fl [M], x ∈ fl [[b9], [b15], [b21], blk a28_l30, M] := pick_sub [some 4] _ rfl
        exact ⟨rfl, hev⟩
      replace h := ite_f hb h
      refine x_pure 18 [(97, undef), (98, undef), (99, undef), (100, undef), (101, undef), (102, .bool false), (103, .bool false), (104, undef), (105, undef), (106, undef), (107, undef), (108, undef), (109, undef), (110, .bool false), (111, .bool false), (112, undef), (113, .bool false), (2, .bool false)] _ _ _ (by kernel_rfl) ?_
      refine x_end rfl (k_then ?_)
      refine c_norm [(2, .bool false)] ⟨rfl, trivial⟩ (fun J => ?_)
      refine c_ret ?_
      refine r_ret (r_vals [.bool false] ⟨rfl, trivial⟩ ?_)
      have hx := some_inj h
      subst hx
      have hmr : MS wl30 [M] := hms.pick [some 4] _ rfl
      have hsu : ∀ x ∈ fl [M], x ∈ fl [[b9], [b15], [b21], blk a28_l30, M] := pick_sub [some 4] _ rfl
      exact ⟨rfl, hev⟩
    replace h := ite_f hb h
    refine x_pure 24 [(91, undef), (92, undef), (93, undef), (94, undef), (95, .bool false), (96, .bool false), (97, undef), (98, undef), (99, undef), (100, undef), (101, undef), (102, .bool false), (103, .bool false), (104, undef), (105, undef), (106, undef), (107, undef), (108, undef), (109, undef), (110, .bool false), (111, .bool false), (112, undef), (113, .bool false), (2, .bool false)] _ _ _ (by kernel_rfl) ?_
    refine x_end rfl (k_then ?_)
    refine c_norm [(2, .bool false)] ⟨rfl, trivial⟩ (fun J => ?_)
    refine c_ret ?_
    refine r_ret (r_vals [.bool false] ⟨rfl, trivial⟩ ?_)
    have hx := some_inj h
    subst hx
    have hmr : MS wl30 [M] := hms.pick [some 4] _ rfl
    have hsu : ∀ x ∈ fl [M], x ∈ fl [[b9], [b15], [b21], blk a28_l30, M] := pick_sub [some 4] _ rfl
    exact ⟨rfl, hev⟩
  replace h := ite_f hb h
  refine x_pure 28 [(87, undef), (88, undef), (89, .bool false), (90, .bool false), (91, undef), (92, undef), (93, undef), (94, undef), (95, .bool false), (96, .bool false), (97, undef), (98, undef), (99, undef), (100, undef), (101, undef), (102, .bool false), (103, .bool false), (104, undef), (105, undef), (106, undef), (107, undef), (108, undef), (109, undef), (110, .bool false), (111, .bool false), (112, undef), (113, .bool false), (2, .bool false)] _ _ _ (by kernel_rfl) ?_
  refine x_end rfl (k_then ?_)
  refine c_norm [(2, .bool false)] ⟨rfl, trivial⟩ (fun J => ?_)
  refine c_ret ?_
  refine r_ret (r_vals [.bool false] ⟨rfl, trivial⟩ ?_)
  have hx := some_inj h
  subst hx
  have hmr : MS wl30 [M] := hms.pick [some 4] _ rfl
  have hsu : ∀ x ∈ fl [M], x ∈ fl [[b9], [b15], [b21], blk a28_l30, M] := pick_sub [some 4] _ rfl
  exact ⟨rfl, hev⟩
end Go.Proofs.Ytmjobkpgnhbcbaa
