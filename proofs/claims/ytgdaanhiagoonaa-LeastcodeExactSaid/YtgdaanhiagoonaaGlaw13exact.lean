/- Walks, printed by program: each function returns what the partial function of the same name returns. Conditions: those of each theorem. -/
import Derived.Test.YtgdaanhiagoonaaGT
import Derived.Test.YtgdaanhiagoonaaGgen
import Derived.Test.YtgdaanhiagoonaaGleastcode
import Derived.Test.YtgdaanhiagoonaaGr13
set_option linter.unusedVariables false
set_option linter.unusedSimpArgs false
set_option maxRecDepth 4000
namespace Go.Proofs.Ytgdaanhiagoonaa
open Go Go.V Go.Proofs
def law13_exact (p0_0 : List (Int × Int × Int × Int)) (p0_1 : Int) (p1 : List Int) : Option Bool :=
((leastcode_Least p0_0 p0_1).bind fun x5 =>
((r13_Least p0_0 p0_1).bind fun x11 =>
((leastcode_Bound p0_0 p0_1 p1).bind fun x17 =>
((r13_Bound p0_0 p0_1 p1).bind fun x19 =>
((gen_Plans x5.1.1 x5.1.2 x11.1.1 x11.1.2).bind fun x22 =>
(if (!x22) = true then
some false
else
(if (x5.2 != x11.2) = true then
some false
else
(if (x17.1 != x19.1) = true then
some false
else
(if (x17.2 != x19.2) = true then
some false
else
((leastcode_Witness p0_0 p0_1).bind fun x24 =>
((r13_Witness p0_0 p0_1).bind fun x27 =>
((gen_Ints x24.1 x27.1).bind fun x30 =>
(if x30 = true then
some (x24.2 == x27.2)
else
some false)))))))))))))

theorem law13_exact_w (a_p0_0 : Option Addr) (c_p0_0 : Nat) (p0_0 : List (Int × Int × Int × Int)) (p0_1 : Int) (a_p1 : Option Addr) (c_p1 : Nat) (p1 : List Int) (r : Bool) (w : World) (M : List Nat) (hms : MS w [M]) (hs_p0_0 : SlR (eProd (eInt .i64) (eProd (eInt .i64) (eProd (eInt .i64) (eInt .i64)))) w (fl [M]) a_p0_0 c_p0_0 p0_0) (hs_p1 : SlR (eInt .i64) w (fl [M]) a_p1 c_p1 p1) (h : law13_exact p0_0 p0_1 p1 = some r) : CallVC Try.prog 18 [.agg #[.slice a_p0_0 (p0_0).length c_p0_0, .int .i64 p0_1], .slice a_p1 (p1).length c_p1] w fun v w' => v = .bool r ∧ Ev [] w w' := by
  refine calls_vc hmx Try.func18 (by kernel_rfl) rfl (rs := [.tmp 4]) rfl (by kernel_rfl) (args := [.agg #[.slice a_p0_0 (p0_0).length c_p0_0, .int .i64 p0_1], .slice a_p1 (p1).length c_p1]) rfl ?_
  have hev : Ev [] w w := Ev.refl _ _
  have hfr : FR w.heap.size [] := FR.nil _
  refine c_seq (c_plain ?_)
  refine x_box (xv := .agg #[.slice a_p0_0 (p0_0).length c_p0_0, .int .i64 p0_1]) rfl rfl rfl (fun b3 w3 hq3 hb3 he3 hz3 => ?_)
  replace hb3 : w3.heap[b3]? = some (.cells #[.slice a_p0_0 (p0_0).length c_p0_0, .int .i64 p0_1] 24 (0, 0)) := hb3
  refine ⟨.inl rfl, ?_⟩
  have hst := Stp.box (ls := [M]) he3 hq3
  replace hs_p0_0 := hs_p0_0.step hst
  replace hs_p1 := hs_p1.step hst
  replace hms := hms.box he3 hq3 hb3
  replace hfr := hfr.box hev.size hq3
  replace hev := hev.ext he3
  refine x_pure 1 [(4, .bool false)] _ _ _ (by kernel_rfl) ?_
  refine x_end rfl (k_then ?_)
  refine c_seq (c_plain ?_)
  refine x_load (xv := .pointer (some ⟨b3, 0, none⟩)) (.agg #[.slice a_p0_0 (p0_0).length c_p0_0, .int .i64 p0_1]) rfl rfl rfl (reads_boxagg 0 [.slice a_p0_0 (p0_0).length c_p0_0, .int .i64 p0_1] tagg24 hb3 nn rfl) ?_
  obtain ⟨x5, hx, h⟩ := bind_some h
  have hpk : MS w3 ([] ++ [[b3], M]) := hms.pick [some 0, some 1] _ rfl
  have hsb0 : ∀ x ∈ fl ([] ++ [[b3], M]), x ∈ fl [[b3], M] := pick_sub [some 0, some 1] _ rfl
  have hsb : ∀ x ∈ fl ([] ++ [(fl [[b3], M])]), x ∈ fl [[b3], M] := fun x hx => hsb0 x (fl_unfold x hx)
  have hcall := leastcode_Least_w a_p0_0 c_p0_0 p0_0 p0_1 _ w3 (fl [[b3], M]) (MS.fold (P := []) hpk) (hs_p0_0.sub hsb) hx
  refine x_call 12 #[] #[] [.agg #[.slice a_p0_0 (p0_0).length c_p0_0, .int .i64 p0_1]] _ rfl rfl rfl rfl hcall ?_
  rintro v w6 ⟨a0_6, c0_6, rfl, he6, hmn6, hfn6, hf6_1⟩
  clear hcall hx
  refine ⟨.inl rfl, ?_⟩
  have hpk2 : MS w3 ([] ++ [[b3], M]) := hms.pick [some 0, some 1] _ rfl
  have hsb2 : ∀ x ∈ fl ([] ++ [[b3], M]), x ∈ fl [[b3], M] := pick_sub [some 0, some 1] _ rfl
  have hst0 := Stp.call (LS := [[b3], M]) (res := [blk a0_6]) (par := []) (R := [[b3], M]) he6 (fun b hb => hsb2 b (fl_left' (P := []) b hb)) hfn6 (NP.init _ _) (fun x hx => hsb2 x (fl_right' (P := []) x hx))
  have hsn : ∀ x ∈ fl [blk a0_6, [b3], M], x ∈ fl ([blk a0_6] ++ ([] ++ [[b3], M])) := pick_sub [some 0, some 1, some 2] _ rfl
  have hst := hst0.res hsn
  replace hs_p0_0 := hs_p0_0.step hst
  replace hs_p1 := hs_p1.step hst
  replace hb3 := he6.box hb3 ((MS.outs (P := []) hpk2 0 rfl) _ (List.mem_singleton.2 rfl))
  replace hms : MS w6 [blk a0_6, [b3], M] := (MS.call (P := []) (R := [[b3], M]) (res := [blk a0_6]) (par := []) hpk2 he6 hmn6 hfn6 (NP.init _ _)).pick [some 0, some 1, some 2] _ rfl
  have hfr2 : FR w.heap.size [blk a0_6, [b3]] := (FR.cons (fun b hb => Nat.le_trans hev.size (hfn6.at 0 rfl b hb)) (FR.cons (hfr.at 0 rfl) (FR.nil _)))
  replace hev := hev.ext he6
  replace hfr := hfr2
  clear hfr2
  replace hf6_1 := OwnS.plain (M' := fl [blk a0_6, [b3], M]) (plain_int _) hf6_1
  clear hpk hsb hsb0 hpk2 hsb2 hst0 hsn hst
  have hpk : MS w6 [[b3], M] := hms.pick [some 1, some 2] _ rfl
  have hsu : ∀ x ∈ fl [[b3], M], x ∈ fl [blk a0_6, [b3], M] := pick_sub [some 1, some 2] _ rfl
  replace hs_p0_0 := hs_p0_0.sub hsu
  replace hs_p1 := hs_p1.sub hsu
  replace hf6_1 := hf6_1.ro hsu (pick_out hms 0 rfl [some 1, some 2] [[b3], M] rfl rfl)
  replace hms := hpk
  replace hfr : FR w.heap.size [[b3]] := hfr.pick [some 1] _ rfl
  clear hpk hsu
  refine x_pure 3 [(15, .tuple #[.agg #[.int .i64 x5.1.1, .slice a0_6 (x5.1.2).length c0_6], .int .i64 x5.2]), (18, .agg #[.int .i64 x5.1.1, .slice a0_6 (x5.1.2).length c0_6]), (19, .int .i64 x5.2)] _ _ _ (by kernel_rfl) ?_
  refine x_alloc (z := .agg #[.int .i64 0, .slice none 0 0]) rfl rfl (by kernel_rfl) (fun b8 w8 hq8 hb8 he8 hz8 => ?_)
  replace hb8 : w8.heap[b8]? = some (.cells #[.int .i64 0, .slice none 0 0] 29 (0, 0)) := hb8
  refine ⟨.inl rfl, ?_⟩
  have hst := Stp.box (ls := [[b3], M]) he8 hq8
  replace hs_p0_0 := hs_p0_0.step hst
  replace hs_p1 := hs_p1.step hst
  replace hb3 := he8.box hb3 nn
  replace hf6_1 := hf6_1.step hst
  replace hms := hms.box he8 hq8 hb8
  replace hfr := hfr.box hev.size hq8
  replace hev := hev.ext he8
  obtain ⟨w10, hr10, hb10, he10⟩ := store_boxagg 0 [.int .i64 x5.1.1, .slice a0_6 (x5.1.2).length c0_6] #[.int .i64 x5.1.1, .slice a0_6 (x5.1.2).length c0_6] tagg29 hb8 rfl rfl rfl
  refine x_store w10 (xv := .pointer (some ⟨b8, 0, none⟩)) (yv := .agg #[.int .i64 x5.1.1, .slice a0_6 (x5.1.2).length c0_6]) rfl rfl rfl rfl hr10 ?_
  refine ⟨.inl rfl, ?_⟩
  have hst := Stp.ev' (ls := [[b8], [b3], M]) he10 (mem_flat 0 rfl)
  replace hs_p0_0 := hs_p0_0.step hst
  replace hs_p1 := hs_p1.step hst
  replace hb3 := he10.box hb3 (hms.apart 1 0 rfl rfl rfl _ (List.mem_singleton.2 rfl))
  replace hf6_1 := hf6_1.step hst
  replace hms := hms.ev he10
  replace hev := hev.then he10 (fun b hb => .inr (hfr.at 0 rfl b hb))
  replace hb8 := hb10
  refine x_pure 1 [(6, .int .i64 x5.2)] _ _ _ (by kernel_rfl) ?_
  refine x_end rfl (k_then ?_)
  refine c_seq (c_plain ?_)
  refine x_load (xv := .pointer (some ⟨b3, 0, none⟩)) (.agg #[.slice a_p0_0 (p0_0).length c_p0_0, .int .i64 p0_1]) rfl rfl rfl (reads_boxagg 0 [.slice a_p0_0 (p0_0).length c_p0_0, .int .i64 p0_1] tagg24 hb3 nn rfl) ?_
  obtain ⟨x11, hx, h⟩ := bind_some h
  have hpk : MS w10 ([] ++ [[b8], [b3], M]) := hms.pick [some 0, some 1, some 2] _ rfl
  have hsb0 : ∀ x ∈ fl ([] ++ [[b8], [b3], M]), x ∈ fl [[b8], [b3], M] := pick_sub [some 0, some 1, some 2] _ rfl
  have hsb : ∀ x ∈ fl ([] ++ [(fl [[b8], [b3], M])]), x ∈ fl [[b8], [b3], M] := fun x hx => hsb0 x (fl_unfold x hx)
  have hcall := r13_Least_w a_p0_0 c_p0_0 p0_0 p0_1 _ w10 (fl [[b8], [b3], M]) (MS.fold (P := []) hpk) (hs_p0_0.sub hsb) hx
  refine x_call 42 #[] #[] [.agg #[.slice a_p0_0 (p0_0).length c_p0_0, .int .i64 p0_1]] _ rfl rfl rfl rfl hcall ?_
  rintro v w12 ⟨a0_12, c0_12, rfl, he12, hmn12, hfn12, hf12_1⟩
  clear hcall hx
  refine ⟨.inl rfl, ?_⟩
  have hpk2 : MS w10 ([] ++ [[b8], [b3], M]) := hms.pick [some 0, some 1, some 2] _ rfl
  have hsb2 : ∀ x ∈ fl ([] ++ [[b8], [b3], M]), x ∈ fl [[b8], [b3], M] := pick_sub [some 0, some 1, some 2] _ rfl
  have hst0 := Stp.call (LS := [[b8], [b3], M]) (res := [blk a0_12]) (par := []) (R := [[b8], [b3], M]) he12 (fun b hb => hsb2 b (fl_left' (P := []) b hb)) hfn12 (NP.init _ _) (fun x hx => hsb2 x (fl_right' (P := []) x hx))
  have hsn : ∀ x ∈ fl [blk a0_12, [b8], [b3], M], x ∈ fl ([blk a0_12] ++ ([] ++ [[b8], [b3], M])) := pick_sub [some 0, some 1, some 2, some 3] _ rfl
  have hst := hst0.res hsn
  replace hs_p0_0 := hs_p0_0.step hst
  replace hs_p1 := hs_p1.step hst
  replace hb3 := he12.box hb3 ((MS.outs (P := []) hpk2 1 rfl) _ (List.mem_singleton.2 rfl))
  replace hf6_1 := hf6_1.step hst
  replace hb8 := he12.box hb8 ((MS.outs (P := []) hpk2 0 rfl) _ (List.mem_singleton.2 rfl))
  replace hms : MS w12 [blk a0_12, [b8], [b3], M] := (MS.call (P := []) (R := [[b8], [b3], M]) (res := [blk a0_12]) (par := []) hpk2 he12 hmn12 hfn12 (NP.init _ _)).pick [some 0, some 1, some 2, some 3] _ rfl
  have hfr2 : FR w.heap.size [blk a0_12, [b8], [b3]] := (FR.cons (fun b hb => Nat.le_trans hev.size (hfn12.at 0 rfl b hb)) (FR.cons (hfr.at 0 rfl) (FR.cons (hfr.at 1 rfl) (FR.nil _))))
  replace hev := hev.ext he12
  replace hfr := hfr2
  clear hfr2
  replace hf12_1 := OwnS.plain (M' := fl [blk a0_12, [b8], [b3], M]) (plain_int _) hf12_1
  clear hpk hsb hsb0 hpk2 hsb2 hst0 hsn hst
  have hpk : MS w12 [[b8], [b3], M] := hms.pick [some 1, some 2, some 3] _ rfl
  have hsu : ∀ x ∈ fl [[b8], [b3], M], x ∈ fl [blk a0_12, [b8], [b3], M] := pick_sub [some 1, some 2, some 3] _ rfl
  replace hs_p0_0 := hs_p0_0.sub hsu
  replace hs_p1 := hs_p1.sub hsu
  replace hf6_1 := hf6_1.sub hsu
  replace hf12_1 := hf12_1.ro hsu (pick_out hms 0 rfl [some 1, some 2, some 3] [[b8], [b3], M] rfl rfl)
  replace hms := hpk
  replace hfr : FR w.heap.size [[b8], [b3]] := hfr.pick [some 1, some 2] _ rfl
  clear hpk hsu
  refine x_pure 3 [(20, .tuple #[.agg #[.int .i64 x11.1.1, .slice a0_12 (x11.1.2).length c0_12], .int .i64 x11.2]), (23, .agg #[.int .i64 x11.1.1, .slice a0_12 (x11.1.2).length c0_12]), (24, .int .i64 x11.2)] _ _ _ (by kernel_rfl) ?_
  refine x_alloc (z := .agg #[.int .i64 0, .slice none 0 0]) rfl rfl (by kernel_rfl) (fun b14 w14 hq14 hb14 he14 hz14 => ?_)
  replace hb14 : w14.heap[b14]? = some (.cells #[.int .i64 0, .slice none 0 0] 29 (0, 0)) := hb14
  refine ⟨.inl rfl, ?_⟩
  have hst := Stp.box (ls := [[b8], [b3], M]) he14 hq14
  replace hs_p0_0 := hs_p0_0.step hst
  replace hs_p1 := hs_p1.step hst
  replace hb3 := he14.box hb3 nn
  replace hf6_1 := hf6_1.step hst
  replace hb8 := he14.box hb8 nn
  replace hf12_1 := hf12_1.step hst
  replace hms := hms.box he14 hq14 hb14
  replace hfr := hfr.box hev.size hq14
  replace hev := hev.ext he14
  obtain ⟨w16, hr16, hb16, he16⟩ := store_boxagg 0 [.int .i64 x11.1.1, .slice a0_12 (x11.1.2).length c0_12] #[.int .i64 x11.1.1, .slice a0_12 (x11.1.2).length c0_12] tagg29 hb14 rfl rfl rfl
  refine x_store w16 (xv := .pointer (some ⟨b14, 0, none⟩)) (yv := .agg #[.int .i64 x11.1.1, .slice a0_12 (x11.1.2).length c0_12]) rfl rfl rfl rfl hr16 ?_
  refine ⟨.inl rfl, ?_⟩
  have hst := Stp.ev' (ls := [[b14], [b8], [b3], M]) he16 (mem_flat 0 rfl)
  replace hs_p0_0 := hs_p0_0.step hst
  replace hs_p1 := hs_p1.step hst
  replace hb3 := he16.box hb3 (hms.apart 2 0 rfl rfl rfl _ (List.mem_singleton.2 rfl))
  replace hf6_1 := hf6_1.step hst
  replace hb8 := he16.box hb8 (hms.apart 1 0 rfl rfl rfl _ (List.mem_singleton.2 rfl))
  replace hf12_1 := hf12_1.step hst
  replace hms := hms.ev he16
  replace hev := hev.then he16 (fun b hb => .inr (hfr.at 0 rfl b hb))
  replace hb14 := hb16
  refine x_pure 1 [(8, .int .i64 x11.2)] _ _ _ (by kernel_rfl) ?_
  refine x_end rfl (k_then ?_)
  refine c_norm [(1, .slice a_p1 (p1).length c_p1), (2, .pointer (some ⟨b3, 0, none⟩)), (5, .pointer (some ⟨b8, 0, none⟩)), (6, .int .i64 x5.2), (7, .pointer (some ⟨b14, 0, none⟩)), (8, .int .i64 x11.2)] ⟨rfl, rfl, rfl, rfl, rfl, rfl, trivial⟩ (fun J => ?_)
  refine c_seq (c_plain ?_)
  refine x_load (xv := .pointer (some ⟨b3, 0, none⟩)) (.agg #[.slice a_p0_0 (p0_0).length c_p0_0, .int .i64 p0_1]) rfl rfl rfl (reads_boxagg 0 [.slice a_p0_0 (p0_0).length c_p0_0, .int .i64 p0_1] tagg24 hb3 nn rfl) ?_
  refine x_pure 1 [(27, .slice a_p1 (p1).length c_p1)] _ _ _ (by kernel_rfl) ?_
  obtain ⟨x17, hx, h⟩ := bind_some h
  have hpk : MS w16 ([] ++ [[b14], [b8], [b3], M]) := hms.pick [some 0, some 1, some 2, some 3] _ rfl
  have hsb0 : ∀ x ∈ fl ([] ++ [[b14], [b8], [b3], M]), x ∈ fl [[b14], [b8], [b3], M] := pick_sub [some 0, some 1, some 2, some 3] _ rfl
  have hsb : ∀ x ∈ fl ([] ++ [(fl [[b14], [b8], [b3], M])]), x ∈ fl [[b14], [b8], [b3], M] := fun x hx => hsb0 x (fl_unfold x hx)
  have hcall := leastcode_Bound_w a_p0_0 c_p0_0 p0_0 p0_1 a_p1 c_p1 p1 _ w16 (fl [[b14], [b8], [b3], M]) (MS.fold (P := []) hpk) (hs_p0_0.sub hsb) (hs_p1.sub hsb) hx
  refine x_call 31 #[] #[] [.agg #[.slice a_p0_0 (p0_0).length c_p0_0, .int .i64 p0_1], .slice a_p1 (p1).length c_p1] _ rfl rfl rfl rfl hcall ?_
  rintro v w18 ⟨rfl, he18⟩
  clear hcall hx
  refine ⟨.inl rfl, ?_⟩
  have hst := Stp.ext (ls := [[b14], [b8], [b3], M]) he18
  replace hs_p0_0 := hs_p0_0.step hst
  replace hs_p1 := hs_p1.step hst
  replace hb3 := he18.box hb3 nn
  replace hf6_1 := hf6_1.step hst
  replace hb8 := he18.box hb8 nn
  replace hf12_1 := hf12_1.step hst
  replace hb14 := he18.box hb14 nn
  replace hms := hms.ev he18
  replace hev := hev.ext he18
  clear hpk hsb hsb0
  refine x_pure 5 [(25, .tuple #[.int .i64 x17.1, .int .i64 x17.2]), (29, .int .i64 x17.1), (30, .int .i64 x17.2), (9, .int .i64 x17.1), (10, .int .i64 x17.2)] _ _ _ (by kernel_rfl) ?_
  refine x_end rfl (k_then ?_)
  refine c_seq (c_plain ?_)
  refine x_load (xv := .pointer (some ⟨b3, 0, none⟩)) (.agg #[.slice a_p0_0 (p0_0).length c_p0_0, .int .i64 p0_1]) rfl rfl rfl (reads_boxagg 0 [.slice a_p0_0 (p0_0).length c_p0_0, .int .i64 p0_1] tagg24 hb3 nn rfl) ?_
  refine x_pure 1 [(33, .slice a_p1 (p1).length c_p1)] _ _ _ (by kernel_rfl) ?_
  obtain ⟨x19, hx, h⟩ := bind_some h
  have hpk : MS w18 ([] ++ [[b14], [b8], [b3], M]) := hms.pick [some 0, some 1, some 2, some 3] _ rfl
  have hsb0 : ∀ x ∈ fl ([] ++ [[b14], [b8], [b3], M]), x ∈ fl [[b14], [b8], [b3], M] := pick_sub [some 0, some 1, some 2, some 3] _ rfl
  have hsb : ∀ x ∈ fl ([] ++ [(fl [[b14], [b8], [b3], M])]), x ∈ fl [[b14], [b8], [b3], M] := fun x hx => hsb0 x (fl_unfold x hx)
  have hcall := r13_Bound_w a_p0_0 c_p0_0 p0_0 p0_1 a_p1 c_p1 p1 _ w18 (fl [[b14], [b8], [b3], M]) (MS.fold (P := []) hpk) (hs_p0_0.sub hsb) (hs_p1.sub hsb) hx
  refine x_call 43 #[] #[] [.agg #[.slice a_p0_0 (p0_0).length c_p0_0, .int .i64 p0_1], .slice a_p1 (p1).length c_p1] _ rfl rfl rfl rfl hcall ?_
  rintro v w20 ⟨rfl, he20⟩
  clear hcall hx
  refine ⟨.inl rfl, ?_⟩
  have hst := Stp.ext (ls := [[b14], [b8], [b3], M]) he20
  replace hs_p0_0 := hs_p0_0.step hst
  replace hs_p1 := hs_p1.step hst
  replace hb3 := he20.box hb3 nn
  replace hf6_1 := hf6_1.step hst
  replace hb8 := he20.box hb8 nn
  replace hf12_1 := hf12_1.step hst
  replace hb14 := he20.box hb14 nn
  replace hms := hms.ev he20
  replace hev := hev.ext he20
  clear hpk hsb hsb0
  refine x_pure 5 [(31, .tuple #[.int .i64 x19.1, .int .i64 x19.2]), (35, .int .i64 x19.1), (36, .int .i64 x19.2), (11, .int .i64 x19.1), (12, .int .i64 x19.2)] _ _ _ (by kernel_rfl) ?_
  refine x_end rfl (k_then ?_)
  refine c_norm [(2, .pointer (some ⟨b3, 0, none⟩)), (5, .pointer (some ⟨b8, 0, none⟩)), (6, .int .i64 x5.2), (7, .pointer (some ⟨b14, 0, none⟩)), (8, .int .i64 x11.2), (9, .int .i64 x17.1), (10, .int .i64 x17.2), (11, .int .i64 x19.1), (12, .int .i64 x19.2)] ⟨rfl, rfl, rfl, rfl, rfl, rfl, rfl, rfl, rfl, trivial⟩ (fun J => ?_)
  refine c_seq ?_
  refine c_seq (c_plain ?_)
  refine x_load (xv := .pointer (some ⟨b8, 0, none⟩)) (.agg #[.int .i64 x5.1.1, .slice a0_6 (x5.1.2).length c0_6]) rfl rfl rfl (reads_boxagg 0 [.int .i64 x5.1.1, .slice a0_6 (x5.1.2).length c0_6] tagg29 hb8 nn rfl) ?_
  refine x_load (xv := .pointer (some ⟨b14, 0, none⟩)) (.agg #[.int .i64 x11.1.1, .slice a0_12 (x11.1.2).length c0_12]) rfl rfl rfl (reads_boxagg 0 [.int .i64 x11.1.1, .slice a0_12 (x11.1.2).length c0_12] tagg29 hb14 nn rfl) ?_
  obtain ⟨x22, hx, h⟩ := bind_some h
  have hpk : MS w20 ([] ++ [[b14], [b8], [b3], M]) := hms.pick [some 0, some 1, some 2, some 3] _ rfl
  have hsb0 : ∀ x ∈ fl ([] ++ [[b14], [b8], [b3], M]), x ∈ fl [[b14], [b8], [b3], M] := pick_sub [some 0, some 1, some 2, some 3] _ rfl
  have hsb : ∀ x ∈ fl ([] ++ [(fl [[b14], [b8], [b3], M])]), x ∈ fl [[b14], [b8], [b3], M] := fun x hx => hsb0 x (fl_unfold x hx)
  have hcall := gen_Plans_w x5.1.1 a0_6 c0_6 x5.1.2 x11.1.1 a0_12 c0_12 x11.1.2 _ w20 (fl [[b14], [b8], [b3], M]) (MS.fold (P := []) hpk) (hf6_1.sub hsb) (hf12_1.sub hsb) hx
  refine x_call 44 #[] #[] [.agg #[.int .i64 x5.1.1, .slice a0_6 (x5.1.2).length c0_6], .agg #[.int .i64 x11.1.1, .slice a0_12 (x11.1.2).length c0_12]] _ rfl rfl rfl rfl hcall ?_
  rintro v w23 ⟨rfl, he23⟩
  clear hcall hx
  refine ⟨.inl rfl, ?_⟩
  have hst := Stp.ext (ls := [[b14], [b8], [b3], M]) he23
  replace hs_p0_0 := hs_p0_0.step hst
  replace hb3 := he23.box hb3 nn
  replace hf6_1 := hf6_1.step hst
  replace hb8 := he23.box hb8 nn
  replace hf12_1 := hf12_1.step hst
  replace hb14 := he23.box hb14 nn
  replace hms := hms.ev he23
  replace hev := hev.ext he23
  clear hpk hsb hsb0
  refine x_pure 2 [(40, .bool (!x22)), (41, .bool (!x22))] _ _ _ (by kernel_rfl) ?_
  refine x_split 41 (!x22) rfl (fun hb => ?_) (fun hb => ?_)
  · replace h := ite_t hb h
    refine x_pure 14 [(42, undef), (43, undef), (44, undef), (45, .bool true), (46, .bool true), (47, undef), (48, undef), (49, undef), (50, .bool true), (51, .bool true), (52, undef), (53, undef), (54, undef), (55, .bool true)] _ _ _ (by kernel_rfl) ?_
    refine x_end rfl (k_then ?_)
    refine c_norm [(2, .pointer (some ⟨b3, 0, none⟩)), (55, .bool true)] ⟨rfl, rfl, trivial⟩ (fun J => ?_)
    refine c_true rfl ?_
    refine c_seq (c_plain ?_)
    refine x_pure 1 [(4, .bool false)] _ _ _ (by kernel_rfl) ?_
    refine x_end rfl (k_then ?_)
    refine c_ret ?_
    refine k_then_ret ?_
    refine r_ret (r_vals [.bool false] ⟨rfl, trivial⟩ ?_)
    have hx := some_inj h
    subst hx
    have hmr : MS w23 [M] := hms.pick [some 3] _ rfl
    have hsu : ∀ x ∈ fl [M], x ∈ fl [[b14], [b8], [b3], M] := pick_sub [some 3] _ rfl
    exact ⟨rfl, hev⟩
  replace h := ite_f hb h
  refine x_pure 5 [(42, .int .i64 x5.2), (43, .int .i64 x11.2), (44, .bool (x5.2 != x11.2)), (45, .bool (x5.2 != x11.2)), (46, .bool (x5.2 != x11.2))] _ _ _ (by kernel_rfl) ?_
  refine x_split 46 (x5.2 != x11.2) rfl (fun hb => ?_) (fun hb => ?_)
  · replace h := ite_t hb h
    refine x_pure 9 [(47, undef), (48, undef), (49, undef), (50, .bool true), (51, .bool true), (52, undef), (53, undef), (54, undef), (55, .bool true)] _ _ _ (by kernel_rfl) ?_
    refine x_end rfl (k_then ?_)
    refine c_norm [(2, .pointer (some ⟨b3, 0, none⟩)), (55, .bool true)] ⟨rfl, rfl, trivial⟩ (fun J => ?_)
    refine c_true rfl ?_
    refine c_seq (c_plain ?_)
    refine x_pure 1 [(4, .bool false)] _ _ _ (by kernel_rfl) ?_
    refine x_end rfl (k_then ?_)
    refine c_ret ?_
    refine k_then_ret ?_
    refine r_ret (r_vals [.bool false] ⟨rfl, trivial⟩ ?_)
    have hx := some_inj h
    subst hx
    have hmr : MS w23 [M] := hms.pick [some 3] _ rfl
    have hsu : ∀ x ∈ fl [M], x ∈ fl [[b14], [b8], [b3], M] := pick_sub [some 3] _ rfl
    exact ⟨rfl, hev⟩
  replace h := ite_f hb h
  refine x_pure 5 [(47, .int .i64 x17.1), (48, .int .i64 x19.1), (49, .bool (x17.1 != x19.1)), (50, .bool (x17.1 != x19.1)), (51, .bool (x17.1 != x19.1))] _ _ _ (by kernel_rfl) ?_
  refine x_split 51 (x17.1 != x19.1) rfl (fun hb => ?_) (fun hb => ?_)
  · replace h := ite_t hb h
    refine x_pure 4 [(52, undef), (53, undef), (54, undef), (55, .bool true)] _ _ _ (by kernel_rfl) ?_
    refine x_end rfl (k_then ?_)
    refine c_norm [(2, .pointer (some ⟨b3, 0, none⟩)), (55, .bool true)] ⟨rfl, rfl, trivial⟩ (fun J => ?_)
    refine c_true rfl ?_
    refine c_seq (c_plain ?_)
    refine x_pure 1 [(4, .bool false)] _ _ _ (by kernel_rfl) ?_
    refine x_end rfl (k_then ?_)
    refine c_ret ?_
    refine k_then_ret ?_
    refine r_ret (r_vals [.bool false] ⟨rfl, trivial⟩ ?_)
    have hx := some_inj h
    subst hx
    have hmr : MS w23 [M] := hms.pick [some 3] _ rfl
    have hsu : ∀ x ∈ fl [M], x ∈ fl [[b14], [b8], [b3], M] := pick_sub [some 3] _ rfl
    exact ⟨rfl, hev⟩
  replace h := ite_f hb h
  refine x_pure 4 [(52, .int .i64 x17.2), (53, .int .i64 x19.2), (54, .bool (x17.2 != x19.2)), (55, .bool (x17.2 != x19.2))] _ _ _ (by kernel_rfl) ?_
  refine x_end rfl (k_then ?_)
  refine c_norm [(2, .pointer (some ⟨b3, 0, none⟩)), (55, .bool (x17.2 != x19.2))] ⟨rfl, rfl, trivial⟩ (fun J => ?_)
  refine c_cond (x17.2 != x19.2) rfl (fun hb => ?_) (fun hb => ?_)
  · replace h := ite_t hb h
    refine c_seq (c_plain ?_)
    refine x_pure 1 [(4, .bool false)] _ _ _ (by kernel_rfl) ?_
    refine x_end rfl (k_then ?_)
    refine c_ret ?_
    refine k_then_ret ?_
    refine r_ret (r_vals [.bool false] ⟨rfl, trivial⟩ ?_)
    have hx := some_inj h
    subst hx
    have hmr : MS w23 [M] := hms.pick [some 3] _ rfl
    have hsu : ∀ x ∈ fl [M], x ∈ fl [[b14], [b8], [b3], M] := pick_sub [some 3] _ rfl
    exact ⟨rfl, hev⟩
  replace h := ite_f hb h
  refine c_skip ?_
  refine k_then ?_
  refine c_seq (c_plain ?_)
  refine x_load (xv := .pointer (some ⟨b3, 0, none⟩)) (.agg #[.slice a_p0_0 (p0_0).length c_p0_0, .int .i64 p0_1]) rfl rfl rfl (reads_boxagg 0 [.slice a_p0_0 (p0_0).length c_p0_0, .int .i64 p0_1] tagg24 hb3 nn rfl) ?_
  obtain ⟨x24, hx, h⟩ := bind_some h
  have hpk : MS w23 ([] ++ [[b14], [b8], [b3], M]) := hms.pick [some 0, some 1, some 2, some 3] _ rfl
  have hsb0 : ∀ x ∈ fl ([] ++ [[b14], [b8], [b3], M]), x ∈ fl [[b14], [b8], [b3], M] := pick_sub [some 0, some 1, some 2, some 3] _ rfl
  have hsb : ∀ x ∈ fl ([] ++ [(fl [[b14], [b8], [b3], M])]), x ∈ fl [[b14], [b8], [b3], M] := fun x hx => hsb0 x (fl_unfold x hx)
  have hcall := leastcode_Witness_w a_p0_0 c_p0_0 p0_0 p0_1 _ w23 (fl [[b14], [b8], [b3], M]) (MS.fold (P := []) hpk) (hs_p0_0.sub hsb) hx
  refine x_call 20 #[] #[] [.agg #[.slice a_p0_0 (p0_0).length c_p0_0, .int .i64 p0_1]] _ rfl rfl rfl rfl hcall ?_
  rintro v w25 ⟨a0_25, c0_25, rfl, he25, hmn25, hfn25, hf25_1⟩
  clear hcall hx
  refine ⟨.inl rfl, ?_⟩
  have hpk2 : MS w23 ([] ++ [[b14], [b8], [b3], M]) := hms.pick [some 0, some 1, some 2, some 3] _ rfl
  have hsb2 : ∀ x ∈ fl ([] ++ [[b14], [b8], [b3], M]), x ∈ fl [[b14], [b8], [b3], M] := pick_sub [some 0, some 1, some 2, some 3] _ rfl
  have hst0 := Stp.call (LS := [[b14], [b8], [b3], M]) (res := [blk a0_25]) (par := []) (R := [[b14], [b8], [b3], M]) he25 (fun b hb => hsb2 b (fl_left' (P := []) b hb)) hfn25 (NP.init _ _) (fun x hx => hsb2 x (fl_right' (P := []) x hx))
  have hsn : ∀ x ∈ fl [blk a0_25, [b14], [b8], [b3], M], x ∈ fl ([blk a0_25] ++ ([] ++ [[b14], [b8], [b3], M])) := pick_sub [some 0, some 1, some 2, some 3, some 4] _ rfl
  have hst := hst0.res hsn
  replace hs_p0_0 := hs_p0_0.step hst
  replace hb3 := he25.box hb3 ((MS.outs (P := []) hpk2 2 rfl) _ (List.mem_singleton.2 rfl))
  replace hf6_1 := hf6_1.step hst
  replace hb8 := he25.box hb8 ((MS.outs (P := []) hpk2 1 rfl) _ (List.mem_singleton.2 rfl))
  replace hf12_1 := hf12_1.step hst
  replace hb14 := he25.box hb14 ((MS.outs (P := []) hpk2 0 rfl) _ (List.mem_singleton.2 rfl))
  replace hms : MS w25 [blk a0_25, [b14], [b8], [b3], M] := (MS.call (P := []) (R := [[b14], [b8], [b3], M]) (res := [blk a0_25]) (par := []) hpk2 he25 hmn25 hfn25 (NP.init _ _)).pick [some 0, some 1, some 2, some 3, some 4] _ rfl
  have hfr2 : FR w.heap.size [blk a0_25, [b14], [b8], [b3]] := (FR.cons (fun b hb => Nat.le_trans hev.size (hfn25.at 0 rfl b hb)) (FR.cons (hfr.at 0 rfl) (FR.cons (hfr.at 1 rfl) (FR.cons (hfr.at 2 rfl) (FR.nil _)))))
  replace hev := hev.ext he25
  replace hfr := hfr2
  clear hfr2
  replace hf25_1 := OwnS.plain (M' := fl [blk a0_25, [b14], [b8], [b3], M]) (plain_int _) hf25_1
  clear hpk hsb hsb0 hpk2 hsb2 hst0 hsn hst
  have hpk : MS w25 [[b14], [b8], [b3], M] := hms.pick [some 1, some 2, some 3, some 4] _ rfl
  have hsu : ∀ x ∈ fl [[b14], [b8], [b3], M], x ∈ fl [blk a0_25, [b14], [b8], [b3], M] := pick_sub [some 1, some 2, some 3, some 4] _ rfl
  replace hs_p0_0 := hs_p0_0.sub hsu
  replace hf6_1 := hf6_1.sub hsu
  replace hf12_1 := hf12_1.sub hsu
  replace hf25_1 := hf25_1.ro hsu (pick_out hms 0 rfl [some 1, some 2, some 3, some 4] [[b14], [b8], [b3], M] rfl rfl)
  replace hms := hpk
  replace hfr : FR w.heap.size [[b14], [b8], [b3]] := hfr.pick [some 1, some 2, some 3] _ rfl
  clear hpk hsu
  refine x_pure 5 [(56, .tuple #[.slice a0_25 (x24.1).length c0_25, .int .i64 x24.2]), (59, .slice a0_25 (x24.1).length c0_25), (60, .int .i64 x24.2), (13, .slice a0_25 (x24.1).length c0_25), (6, .int .i64 x24.2)] _ _ _ (by kernel_rfl) ?_
  refine x_end rfl (k_then ?_)
  refine c_seq (c_plain ?_)
  refine x_load (xv := .pointer (some ⟨b3, 0, none⟩)) (.agg #[.slice a_p0_0 (p0_0).length c_p0_0, .int .i64 p0_1]) rfl rfl rfl (reads_boxagg 0 [.slice a_p0_0 (p0_0).length c_p0_0, .int .i64 p0_1] tagg24 hb3 nn rfl) ?_
  obtain ⟨x27, hx, h⟩ := bind_some h
  have hpk : MS w25 ([] ++ [[b14], [b8], [b3], M]) := hms.pick [some 0, some 1, some 2, some 3] _ rfl
  have hsb0 : ∀ x ∈ fl ([] ++ [[b14], [b8], [b3], M]), x ∈ fl [[b14], [b8], [b3], M] := pick_sub [some 0, some 1, some 2, some 3] _ rfl
  have hsb : ∀ x ∈ fl ([] ++ [(fl [[b14], [b8], [b3], M])]), x ∈ fl [[b14], [b8], [b3], M] := fun x hx => hsb0 x (fl_unfold x hx)
  have hcall := r13_Witness_w a_p0_0 c_p0_0 p0_0 p0_1 _ w25 (fl [[b14], [b8], [b3], M]) (MS.fold (P := []) hpk) (hs_p0_0.sub hsb) hx
  refine x_call 45 #[] #[] [.agg #[.slice a_p0_0 (p0_0).length c_p0_0, .int .i64 p0_1]] _ rfl rfl rfl rfl hcall ?_
  rintro v w28 ⟨a0_28, c0_28, rfl, he28, hmn28, hfn28, hf28_1⟩
  clear hcall hx
  refine ⟨.inl rfl, ?_⟩
  have hpk2 : MS w25 ([] ++ [[b14], [b8], [b3], M]) := hms.pick [some 0, some 1, some 2, some 3] _ rfl
  have hsb2 : ∀ x ∈ fl ([] ++ [[b14], [b8], [b3], M]), x ∈ fl [[b14], [b8], [b3], M] := pick_sub [some 0, some 1, some 2, some 3] _ rfl
  have hst0 := Stp.call (LS := [[b14], [b8], [b3], M]) (res := [blk a0_28]) (par := []) (R := [[b14], [b8], [b3], M]) he28 (fun b hb => hsb2 b (fl_left' (P := []) b hb)) hfn28 (NP.init _ _) (fun x hx => hsb2 x (fl_right' (P := []) x hx))
  have hsn : ∀ x ∈ fl [blk a0_28, [b14], [b8], [b3], M], x ∈ fl ([blk a0_28] ++ ([] ++ [[b14], [b8], [b3], M])) := pick_sub [some 0, some 1, some 2, some 3, some 4] _ rfl
  have hst := hst0.res hsn
  replace hs_p0_0 := hs_p0_0.step hst
  replace hb3 := he28.box hb3 ((MS.outs (P := []) hpk2 2 rfl) _ (List.mem_singleton.2 rfl))
  replace hf6_1 := hf6_1.step hst
  replace hb8 := he28.box hb8 ((MS.outs (P := []) hpk2 1 rfl) _ (List.mem_singleton.2 rfl))
  replace hf12_1 := hf12_1.step hst
  replace hb14 := he28.box hb14 ((MS.outs (P := []) hpk2 0 rfl) _ (List.mem_singleton.2 rfl))
  replace hf25_1 := hf25_1.step hst
  replace hms : MS w28 [blk a0_28, [b14], [b8], [b3], M] := (MS.call (P := []) (R := [[b14], [b8], [b3], M]) (res := [blk a0_28]) (par := []) hpk2 he28 hmn28 hfn28 (NP.init _ _)).pick [some 0, some 1, some 2, some 3, some 4] _ rfl
  have hfr2 : FR w.heap.size [blk a0_28, [b14], [b8], [b3]] := (FR.cons (fun b hb => Nat.le_trans hev.size (hfn28.at 0 rfl b hb)) (FR.cons (hfr.at 0 rfl) (FR.cons (hfr.at 1 rfl) (FR.cons (hfr.at 2 rfl) (FR.nil _)))))
  replace hev := hev.ext he28
  replace hfr := hfr2
  clear hfr2
  replace hf28_1 := OwnS.plain (M' := fl [blk a0_28, [b14], [b8], [b3], M]) (plain_int _) hf28_1
  clear hpk hsb hsb0 hpk2 hsb2 hst0 hsn hst
  have hpk : MS w28 [[b14], [b8], [b3], M] := hms.pick [some 1, some 2, some 3, some 4] _ rfl
  have hsu : ∀ x ∈ fl [[b14], [b8], [b3], M], x ∈ fl [blk a0_28, [b14], [b8], [b3], M] := pick_sub [some 1, some 2, some 3, some 4] _ rfl
  replace hs_p0_0 := hs_p0_0.sub hsu
  replace hf6_1 := hf6_1.sub hsu
  replace hf12_1 := hf12_1.sub hsu
  replace hf25_1 := hf25_1.sub hsu
  replace hf28_1 := hf28_1.ro hsu (pick_out hms 0 rfl [some 1, some 2, some 3, some 4] [[b14], [b8], [b3], M] rfl rfl)
  replace hms := hpk
  replace hfr : FR w.heap.size [[b14], [b8], [b3]] := hfr.pick [some 1, some 2, some 3] _ rfl
  clear hpk hsu
  refine x_pure 5 [(61, .tuple #[.slice a0_28 (x27.1).length c0_28, .int .i64 x27.2]), (64, .slice a0_28 (x27.1).length c0_28), (65, .int .i64 x27.2), (14, .slice a0_28 (x27.1).length c0_28), (8, .int .i64 x27.2)] _ _ _ (by kernel_rfl) ?_
  refine x_end rfl (k_then ?_)
  refine c_norm [(6, .int .i64 x24.2), (8, .int .i64 x27.2), (13, .slice a0_25 (x24.1).length c0_25), (14, .slice a0_28 (x27.1).length c0_28)] ⟨rfl, rfl, rfl, rfl, trivial⟩ (fun J => ?_)
  refine c_seq (c_plain ?_)
  refine x_pure 2 [(66, .slice a0_25 (x24.1).length c0_25), (67, .slice a0_28 (x27.1).length c0_28)] _ _ _ (by kernel_rfl) ?_
  obtain ⟨x30, hx, h⟩ := bind_some h
  have hpk : MS w28 ([] ++ [[b14], [b8], [b3], M]) := hms.pick [some 0, some 1, some 2, some 3] _ rfl
  have hsb0 : ∀ x ∈ fl ([] ++ [[b14], [b8], [b3], M]), x ∈ fl [[b14], [b8], [b3], M] := pick_sub [some 0, some 1, some 2, some 3] _ rfl
  have hsb : ∀ x ∈ fl ([] ++ [(fl [[b14], [b8], [b3], M])]), x ∈ fl [[b14], [b8], [b3], M] := fun x hx => hsb0 x (fl_unfold x hx)
  have hcall := gen_Ints_w a0_25 c0_25 x24.1 a0_28 c0_28 x27.1 _ w28 (fl [[b14], [b8], [b3], M]) (MS.fold (P := []) hpk) (hf25_1.sub hsb) (hf28_1.sub hsb) hx
  refine x_call 40 #[] #[] [.slice a0_25 (x24.1).length c0_25, .slice a0_28 (x27.1).length c0_28] _ rfl rfl rfl rfl hcall ?_
  rintro v w31 ⟨rfl, he31⟩
  clear hcall hx
  refine ⟨.inl rfl, ?_⟩
  have hst := Stp.ext (ls := [[b14], [b8], [b3], M]) he31
  replace hs_p0_0 := hs_p0_0.step hst
  replace hb3 := he31.box hb3 nn
  replace hf6_1 := hf6_1.step hst
  replace hb8 := he31.box hb8 nn
  replace hf12_1 := hf12_1.step hst
  replace hb14 := he31.box hb14 nn
  replace hf25_1 := hf25_1.step hst
  replace hf28_1 := hf28_1.step hst
  replace hms := hms.ev he31
  replace hev := hev.ext he31
  clear hpk hsb hsb0
  refine x_pure 1 [(69, .bool x30)] _ _ _ (by kernel_rfl) ?_
  refine x_split 69 x30 rfl (fun hb => ?_) (fun hb => ?_)
  · replace h := ite_t hb h
    refine x_pure 5 [(70, .int .i64 x24.2), (71, .int .i64 x27.2), (72, .bool (x24.2 == x27.2)), (73, .bool (x24.2 == x27.2)), (4, .bool (x24.2 == x27.2))] _ _ _ (by kernel_rfl) ?_
    refine x_end rfl (k_then ?_)
    refine c_ret ?_
    refine r_ret (r_vals [.bool (x24.2 == x27.2)] ⟨rfl, trivial⟩ ?_)
    have hx := some_inj h
    subst hx
    have hmr : MS w31 [M] := hms.pick [some 3] _ rfl
    have hsu : ∀ x ∈ fl [M], x ∈ fl [[b14], [b8], [b3], M] := pick_sub [some 3] _ rfl
    exact ⟨rfl, hev⟩
  replace h := ite_f hb h
  refine x_pure 5 [(70, undef), (71, undef), (72, undef), (73, .bool false), (4, .bool false)] _ _ _ (by kernel_rfl) ?_
  refine x_end rfl (k_then ?_)
  refine c_ret ?_
  refine r_ret (r_vals [.bool false] ⟨rfl, trivial⟩ ?_)
  have hx := some_inj h
  subst hx
  have hmr : MS w31 [M] := hms.pick [some 3] _ rfl
  have hsu : ∀ x ∈ fl [M], x ∈ fl [[b14], [b8], [b3], M] := pick_sub [some 3] _ rfl
  exact ⟨rfl, hev⟩
end Go.Proofs.Ytgdaanhiagoonaa
