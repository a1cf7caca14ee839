/- Walks, printed by program: each function returns what the partial function of the same name returns. Conditions: those of each theorem. -/
import Derived.Test.YtmjobkpgnhbcbaaGT
import Derived.Test.YtmjobkpgnhbcbaaGr11
import Derived.Test.YtmjobkpgnhbcbaaGr12
import Derived.Test.YtmjobkpgnhbcbaaGr14p0
set_option linter.unusedVariables false
set_option linter.unusedSimpArgs false
set_option maxRecDepth 4000
namespace Go.Proofs.Ytmjobkpgnhbcbaa
open Go Go.V Go.Proofs
def r14_Loads_L19 (p0_0 : List (Int × Int × Int × Int)) (p1_0 : Int) (p1_1 : List Int) (x_s8_l14 : Int) (s : (List Int) × Int) : Option (Step ((List Int) × Int) (List Int)) :=
match s with
| (d13_l19, b_s9_l19) =>
(if (decide (b_s9_l19 < p1_0)) = true then
((idx p1_1 x_s8_l14).bind fun x21 =>
(if 0 ≤ b_s9_l19 then
(if ((IntKind.i64.wrap ↑(BitVec.ofInt IntKind.i64.bits (Int.fdiv x21 (2 ^ (min (Int.toNat (b_s9_l19)) IntKind.i64.bits))) &&& BitVec.ofInt IntKind.i64.bits 1).toNat) == 1) = true then
((idx d13_l19 b_s9_l19).bind fun x23 =>
((idx p0_0 x_s8_l14).bind fun x25 =>
((idx d13_l19 b_s9_l19).bind fun x27 =>
some (.next ((d13_l19.set (Int.toNat b_s9_l19) (IntKind.i64.wrap (x23 + x25.2.2.2))), IntKind.i64.wrap (b_s9_l19 + 1))))))
else
some (.next (d13_l19, IntKind.i64.wrap (b_s9_l19 + 1))))
else none))
else
some (.done d13_l19))

def r14_Loads_L14 (p0_0 : List (Int × Int × Int × Int)) (p1_0 : Int) (p1_1 : List Int) (s : (List Int) × Int) : Option (Step ((List Int) × Int) (List Int)) :=
match s with
| (d13_l14, x_s8_l14) =>
(if (decide (x_s8_l14 < ((p0_0).length : Int))) = true then
((idx p0_0 x_s8_l14).bind fun x17 =>
((loop (r14_Loads_L19 p0_0 p1_0 p1_1 x_s8_l14) (d13_l14, x17.2.2.1)).bind fun d => match d with
| d13_x19 => ((idx p0_0 x_s8_l14).bind fun x30 =>
((idx d13_x19 (IntKind.i64.wrap (p1_0 + x30.1))).bind fun x32 =>
((idx p0_0 x_s8_l14).bind fun x34 =>
((idx d13_x19 (IntKind.i64.wrap (p1_0 + x30.1))).bind fun x36 =>
some (.next ((d13_x19.set (Int.toNat (IntKind.i64.wrap (p1_0 + x30.1))) (IntKind.i64.wrap (x32 + x34.2.2.2))), IntKind.i64.wrap (x_s8_l14 + 1)))))))))
else
some (.done d13_l14))

def r14_Loads (p0_0 : List (Int × Int × Int × Int)) (p0_1 : Int) (p1_0 : Int) (p1_1 : List Int) : Option ((List Int) × Int) :=
((r14_Valid p0_0 p0_1 p1_0 p1_1).bind fun x8 =>
(if (x8 != 0) = true then
some ([], x8)
else
((r14_trains p0_0 p0_1).bind fun x10 =>
(if 0 ≤ IntKind.i64.wrap (p1_0 + x10) ∧ IntKind.i64.wrap (p1_0 + x10) ≤ 4294967296 then
((loop (r14_Loads_L14 p0_0 p1_0 p1_1) ((List.replicate (Int.toNat (IntKind.i64.wrap (p1_0 + x10))) 0 : List Int), 0)).bind fun d => match d with
| d13_x14 => some (d13_x14, 0))
else none))))

theorem r14_Loads_w (a_p0_0 : Option Addr) (c_p0_0 : Nat) (p0_0 : List (Int × Int × Int × Int)) (p0_1 : Int) (p1_0 : Int) (a_p1_1 : Option Addr) (c_p1_1 : Nat) (p1_1 : List Int) (r : (List Int) × Int) (w : World) (M : List Nat) (hms : MS w [M]) (hs_p0_0 : SlR (eProd (eInt .i64) (eProd (eInt .i64) (eProd (eInt .i64) (eInt .i64)))) w (fl [M]) a_p0_0 c_p0_0 p0_0) (hs_p1_1 : SlR (eInt .i64) w (fl [M]) a_p1_1 c_p1_1 p1_1) (h : r14_Loads p0_0 p0_1 p1_0 p1_1 = some r) : CallVC Try.prog 39 [.agg #[.slice a_p0_0 (p0_0).length c_p0_0, .int .i64 p0_1], .agg #[.int .i64 p1_0, .slice a_p1_1 (p1_1).length c_p1_1]] w fun v w' => ∃ (a0' : Option Addr), ∃ (c0' : Nat), v = .tuple #[.slice a0' (r.1).length c0', .int .i64 r.2] ∧ Ev [] w w' ∧ MS w' [blk a0', M] ∧ FR w.heap.size [blk a0'] ∧ OwnS (eInt .i64) 3 w' (fl [blk a0', M]) a0' c0' r.1 := by
  refine calls_vc hmx Try.func39 (by kernel_rfl) rfl (rs := [.tmp 4, .tmp 5]) rfl (by kernel_rfl) (args := [.agg #[.slice a_p0_0 (p0_0).length c_p0_0, .int .i64 p0_1], .agg #[.int .i64 p1_0, .slice a_p1_1 (p1_1).length c_p1_1]]) rfl ?_
  have hev : Ev [] w w := Ev.refl _ _
  have hfr : FR w.heap.size [] := FR.nil _
  refine c_seq ?_
  refine c_plain ?_
  refine x_box (xv := .agg #[.slice a_p0_0 (p0_0).length c_p0_0, .int .i64 p0_1]) rfl rfl rfl (fun b3 w3 hq3 hb3 he3 _ => ?_)
  replace hb3 : w3.heap[b3]? = some (.cells #[.slice a_p0_0 (p0_0).length c_p0_0, .int .i64 p0_1] 27 (0, 0)) := hb3
  refine ⟨.inl rfl, ?_⟩
  have hst := Stp.box (ls := [M]) he3 hq3
  replace hs_p0_0 := hs_p0_0.step hst
  replace hs_p1_1 := hs_p1_1.step hst
  replace hms := hms.box he3 hq3 hb3
  replace hfr := hfr.box hev.size hq3
  replace hev := hev.ext he3
  refine x_box (xv := .agg #[.int .i64 p1_0, .slice a_p1_1 (p1_1).length c_p1_1]) rfl rfl rfl (fun b5 w5 hq5 hb5 he5 _ => ?_)
  replace hb5 : w5.heap[b5]? = some (.cells #[.int .i64 p1_0, .slice a_p1_1 (p1_1).length c_p1_1] 30 (0, 0)) := hb5
  refine ⟨.inl rfl, ?_⟩
  have hst := Stp.box (ls := [[b3], M]) he5 hq5
  replace hs_p0_0 := hs_p0_0.step hst
  replace hs_p1_1 := hs_p1_1.step hst
  replace hb3 := he5.box hb3 (fun h => by cases h)
  replace hms := hms.box he5 hq5 hb5
  replace hfr := hfr.box hev.size hq5
  replace hev := hev.ext he5
  refine x_pure 2 [(4, .slice none 0 0), (5, .int .i64 0)] _ _ _ (by kernel_rfl) ?_
  refine x_end rfl ?_
  refine k_then ?_
  refine c_norm [(2, .pointer (some ⟨b3, 0, none⟩)), (3, .pointer (some ⟨b5, 0, none⟩))] ⟨rfl, rfl, trivial⟩ (fun J => ?_)
  refine c_seq ?_
  refine c_seq ?_
  refine c_plain ?_
  refine x_load (xv := .pointer (some ⟨b3, 0, none⟩)) (.agg #[.slice a_p0_0 (p0_0).length c_p0_0, .int .i64 p0_1]) rfl rfl rfl (reads_boxagg 0 [.slice a_p0_0 (p0_0).length c_p0_0, .int .i64 p0_1] tagg27 hb3 (fun h => by cases h) rfl) ?_
  refine x_load (xv := .pointer (some ⟨b5, 0, none⟩)) (.agg #[.int .i64 p1_0, .slice a_p1_1 (p1_1).length c_p1_1]) rfl rfl rfl (reads_boxagg 0 [.int .i64 p1_0, .slice a_p1_1 (p1_1).length c_p1_1] tagg30 hb5 (fun h => by cases h) rfl) ?_
  obtain ⟨x8, hx, h⟩ := bind_some h
  have hpk : MS w5 ([] ++ [[b5], [b3], M]) := hms.pick [some 0, some 1, some 2] _ rfl
  have hsb0 : ∀ x ∈ fl ([] ++ [[b5], [b3], M]), x ∈ fl [[b5], [b3], M] := pick_sub [some 0, some 1, some 2] _ rfl
  have hsb : ∀ x ∈ fl ([] ++ [(fl [[b5], [b3], M])]), x ∈ fl [[b5], [b3], M] := fun x hx => hsb0 x (fl_unfold x hx)
  have hcall := r14_Valid_w a_p0_0 c_p0_0 p0_0 p0_1 p1_0 a_p1_1 c_p1_1 p1_1 _ w5 (fl [[b5], [b3], M]) (MS.fold (P := []) hpk) (hs_p0_0.sub hsb) (hs_p1_1.sub hsb) hx
  refine x_call 37 #[] #[] [.agg #[.slice a_p0_0 (p0_0).length c_p0_0, .int .i64 p0_1], .agg #[.int .i64 p1_0, .slice a_p1_1 (p1_1).length c_p1_1]] _ rfl rfl rfl rfl hcall ?_
  rintro v w9 ⟨rfl, he9⟩
  clear hcall hx
  refine ⟨.inl rfl, ?_⟩
  have hst := Stp.ext (ls := [[b5], [b3], M]) he9
  replace hs_p0_0 := hs_p0_0.step hst
  replace hs_p1_1 := hs_p1_1.step hst
  replace hb3 := he9.box hb3 (fun h => by cases h)
  replace hb5 := he9.box hb5 (fun h => by cases h)
  replace hms := hms.ev he9
  replace hev := hev.ext he9
  clear hpk hsb hsb0
  refine x_pure 1 [(6, .int .i64 x8)] _ _ _ (by kernel_rfl) ?_
  refine x_end rfl ?_
  refine k_then ?_
  refine c_norm [(2, .pointer (some ⟨b3, 0, none⟩)), (3, .pointer (some ⟨b5, 0, none⟩)), (6, .int .i64 x8)] ⟨rfl, rfl, rfl, trivial⟩ (fun J => ?_)
  refine c_seq ?_
  refine c_plain ?_
  refine x_pure 2 [(13, .int .i64 x8), (14, .bool (x8 != 0))] _ _ _ (by kernel_rfl) ?_
  refine x_end rfl ?_
  refine k_then ?_
  refine c_norm [(2, .pointer (some ⟨b3, 0, none⟩)), (3, .pointer (some ⟨b5, 0, none⟩)), (6, .int .i64 x8), (14, .bool (x8 != 0))] ⟨rfl, rfl, rfl, rfl, trivial⟩ (fun J => ?_)
  refine c_cond (x8 != 0) rfl (fun hb => ?_) (fun hb => ?_)
  · replace h := ite_t hb h
    refine c_seq ?_
    refine c_plain ?_
    refine x_pure 3 [(15, .int .i64 x8), (4, .slice none 0 0), (5, .int .i64 x8)] _ _ _ (by kernel_rfl) ?_
    refine x_end rfl ?_
    refine k_then ?_
    refine c_norm [(4, .slice none 0 0), (5, .int .i64 x8)] ⟨rfl, rfl, trivial⟩ (fun J => ?_)
    refine c_ret ?_
    refine k_then_ret ?_
    refine r_ret (r_vals [.slice none 0 0, .int .i64 x8] ⟨rfl, rfl, trivial⟩ ?_)
    have hx := some_inj h
    subst hx
    have hmr : MS w9 [blk none, M] := hms.pick [none, some 2] _ rfl
    have hsu : ∀ x ∈ fl [blk none, M], x ∈ fl [[b5], [b3], M] := pick_sub [none, some 2] _ rfl
    have hfe : FR w.heap.size [blk none] := hfr.pick [none] _ rfl
    exact ⟨none, 0, rfl, hev, hmr, hfe, OwnS.nil _ _ _ _⟩
  · replace h := ite_f hb h
    refine c_skip ?_
    refine k_then ?_
    refine c_norm [(2, .pointer (some ⟨b3, 0, none⟩)), (3, .pointer (some ⟨b5, 0, none⟩))] ⟨rfl, rfl, trivial⟩ (fun J => ?_)
    refine c_seq ?_
    refine c_drawn [] [(0, false), (1, false), (2, false), (3, false), (4, false), (5, false), (6, false)] _ (by kernel_rfl) rfl ?_
    have hst := Stp.ext (ls := [[b5], [b3], M]) (Ev.drew w9)
    replace hs_p0_0 := hs_p0_0.step hst
    replace hs_p1_1 := hs_p1_1.step hst
    replace hb3 := (Ev.drew w9).box hb3 (fun h => by cases h)
    replace hb5 := (Ev.drew w9).box hb5 (fun h => by cases h)
    replace hms := hms.ev (Ev.drew w9)
    replace hev := hev.ext (Ev.drew w9)
    refine x_fieldAddr (xv := .pointer (some ⟨b5, 0, none⟩)) (.pointer (some ⟨b5, 0, none⟩)) rfl rfl rfl (reads_field tfld30_0 _ _) ?_
    refine x_load (xv := .pointer (some ⟨b5, 0, none⟩)) (.int .i64 p1_0) rfl rfl rfl (reads_box tcell3 hb5 (fun h => by cases h) 0 _ rfl) ?_
    refine x_load (xv := .pointer (some ⟨b3, 0, none⟩)) (.agg #[.slice a_p0_0 (p0_0).length c_p0_0, .int .i64 p0_1]) rfl rfl rfl (reads_boxagg 0 [.slice a_p0_0 (p0_0).length c_p0_0, .int .i64 p0_1] tagg27 hb3 (fun h => by cases h) rfl) ?_
    obtain ⟨x10, hx, h⟩ := bind_some h
    have hpk : MS (w9).drew ([] ++ [[b5], [b3], M]) := hms.pick [some 0, some 1, some 2] _ rfl
    have hsb0 : ∀ x ∈ fl ([] ++ [[b5], [b3], M]), x ∈ fl [[b5], [b3], M] := pick_sub [some 0, some 1, some 2] _ rfl
    have hsb : ∀ x ∈ fl ([] ++ [(fl [[b5], [b3], M])]), x ∈ fl [[b5], [b3], M] := fun x hx => hsb0 x (fl_unfold x hx)
    have hcall := r14_trains_w a_p0_0 c_p0_0 p0_0 p0_1 _ (w9).drew (fl [[b5], [b3], M]) (MS.fold (P := []) hpk) (hs_p0_0.sub hsb) hx
    refine x_call 52 #[] #[] [.agg #[.slice a_p0_0 (p0_0).length c_p0_0, .int .i64 p0_1]] _ rfl rfl rfl rfl hcall ?_
    rintro v w11 ⟨rfl, he11⟩
    clear hcall hx
    refine ⟨.inr he11, ?_⟩
    have hst := Stp.ext (ls := [[b5], [b3], M]) he11
    replace hs_p0_0 := hs_p0_0.step hst
    replace hs_p1_1 := hs_p1_1.step hst
    replace hb3 := he11.box hb3 (fun h => by cases h)
    replace hb5 := he11.box hb5 (fun h => by cases h)
    replace hms := hms.ev he11
    replace hev := hev.ext he11
    clear hpk hsb hsb0
    refine x_pure 1 [(20, .int .i64 (IntKind.i64.wrap (p1_0 + x10)))] _ _ _ (by kernel_rfl) ?_
    have hg := guard_l h
    replace h := guard_r h
    obtain ⟨a12, c12, w12, hr12, he12, hn12, hw12⟩ := own_make (e := (eInt .i64)) tel22 w11 (IntKind.i64.wrap (p1_0 + x10)) hg.1 hg.2 0 (fun _ _ => rfl)
    refine x_makeSlice _ w12 (xv := .int .i64 (IntKind.i64.wrap (p1_0 + x10))) (yv := .int .i64 (IntKind.i64.wrap (p1_0 + x10))) rfl rfl rfl rfl hr12 ?_
    refine ⟨.inr he12, ?_⟩
    have hst := Stp.push (ls := [[b5], [b3], M]) (l := blk a12) he12 (fun _ h => by cases h) (fun b hb => (hn12 b hb).1)
    replace hs_p0_0 := hs_p0_0.step hst
    replace hs_p1_1 := hs_p1_1.step hst
    replace hb3 := he12.box hb3 (fun h => by cases h)
    replace hb5 := he12.box hb5 (fun h => by cases h)
    replace hms := hms.push he12 hn12
    replace hfr := hfr.push (fun b hb => Nat.le_trans hev.size (hn12 b hb).1)
    replace hev := hev.ext he12
    have ho12 := hw12 (fl [blk a12, [b5], [b3], M])
    clear hw12
    refine x_pure 1 [(7, .slice a12 ((List.replicate (Int.toNat (IntKind.i64.wrap (p1_0 + x10))) 0 : List Int)).length c12)] _ _ _ (by kernel_rfl) ?_
    refine x_end rfl ?_
    refine k_then ?_
    refine c_norm [(2, .pointer (some ⟨b3, 0, none⟩)), (3, .pointer (some ⟨b5, 0, none⟩)), (7, .slice a12 ((List.replicate (Int.toNat (IntKind.i64.wrap (p1_0 + x10))) 0 : List Int)).length c12)] ⟨rfl, rfl, rfl, trivial⟩ (fun J => ?_)
    refine c_seq ?_
    refine c_seq ?_
    refine c_plain ?_
    refine x_pure 1 [(8, .int .i64 0)] _ _ _ (by kernel_rfl) ?_
    refine x_end rfl ?_
    refine k_then ?_
    refine c_norm [(2, .pointer (some ⟨b3, 0, none⟩)), (3, .pointer (some ⟨b5, 0, none⟩)), (7, .slice a12 ((List.replicate (Int.toNat (IntKind.i64.wrap (p1_0 + x10))) 0 : List Int)).length c12), (8, .int .i64 0)] ⟨rfl, rfl, rfl, rfl, trivial⟩ (fun J => ?_)
    refine c_block ?_
    have hpk : MS w12 [[b3], [b5], blk a12, M] := hms.pick [some 2, some 1, some 0, some 3] _ rfl
    have hsu : ∀ x ∈ fl [[b3], [b5], blk a12, M], x ∈ fl [blk a12, [b5], [b3], M] := pick_sub [some 2, some 1, some 0, some 3] _ rfl
    replace hs_p0_0 := hs_p0_0.sub hsu
    replace hs_p1_1 := hs_p1_1.sub hsu
    replace ho12 := ho12.sub hsu
    replace hms := hpk
    replace hfr : FR w.heap.size [[b3], [b5], blk a12] := hfr.pick [some 2, some 1, some 0] _ rfl
    clear hpk hsu
    obtain ⟨d14, hd14, h14⟩ := bind_some h
    obtain ⟨m14, hd14⟩ := loop_some hd14
    refine c_loop (loop_rule hmx (σ := Nat × (List Int) × Int × Option Addr) (fun s => match s with | (_, d13_l14, x_s8_l14, a13_l14) => [(2, .pointer (some ⟨b3, 0, none⟩)), (3, .pointer (some ⟨b5, 0, none⟩)), (7, .slice a13_l14 (d13_l14).length c12), (8, .int .i64 x_s8_l14)]) (fun s w' => match s with | (m, d13_l14, x_s8_l14, a13_l14) => loopN (r14_Loads_L14 p0_0 p1_0 p1_1) m (d13_l14, x_s8_l14) = some d14 ∧ Ev [] w w' ∧ MS w' [[b3], [b5], blk a13_l14, M] ∧ FR w.heap.size [[b3], [b5], blk a13_l14] ∧ SlR (eProd (eInt .i64) (eProd (eInt .i64) (eProd (eInt .i64) (eInt .i64)))) w' (fl [[b3], [b5], blk a13_l14, M]) a_p0_0 c_p0_0 p0_0 ∧ w'.heap[b3]? = some (.cells #[.slice a_p0_0 (p0_0).length c_p0_0, .int .i64 p0_1] 27 (0, 0)) ∧ SlR (eInt .i64) w' (fl [[b3], [b5], blk a13_l14, M]) a_p1_1 c_p1_1 p1_1 ∧ w'.heap[b5]? = some (.cells #[.int .i64 p1_0, .slice a_p1_1 (p1_1).length c_p1_1] 30 (0, 0)) ∧ OwnS (eInt .i64) 3 w' (fl [[b3], [b5], blk a13_l14, M]) a13_l14 c12 d13_l14) (fun s => s.1) (m14, (List.replicate (Int.toNat (IntKind.i64.wrap (p1_0 + x10))) 0 : List Int), 0, a12) ⟨rfl, rfl, rfl, rfl, trivial⟩ ⟨hd14, hev, hms, hfr, hs_p0_0, hb3, hs_p1_1, hb5, ho12⟩ ?_)
    rintro ⟨m14, d13_l14, x_s8_l14, a13_l14⟩ J wl14 ⟨hn14, hev, hms, hfr, hs_p0_0, hb3, hs_p1_1, hb5, ho12⟩
    rcases m14 with _ | m14
    · exact (loopN_zero hn14).elim
    obtain ⟨t14, h, hn14⟩ := bind_some hn14
    refine c_seq ?_
    refine c_seq ?_
    refine c_plain ?_
    refine x_pure 1 [(22, .int .i64 x_s8_l14)] _ _ _ (by kernel_rfl) ?_
    refine x_fieldAddr (xv := .pointer (some ⟨b3, 0, none⟩)) (.pointer (some ⟨b3, 0, none⟩)) rfl rfl rfl (reads_field tfld27_0 _ _) ?_
    refine x_load (xv := .pointer (some ⟨b3, 0, none⟩)) (.slice a_p0_0 (p0_0).length c_p0_0) rfl rfl rfl (reads_box tcell25 hb3 (fun h => by cases h) 0 _ rfl) ?_
    refine x_len (vs := [.slice a_p0_0 (p0_0).length c_p0_0]) (.int .i64 ((p0_0).length : Int)) rfl rfl rfl (reads_len tsl25 _ _ _ _ _) ?_
    refine x_pure 1 [(26, .bool (decide (x_s8_l14 < ((p0_0).length : Int))))] _ _ _ (by kernel_rfl) ?_
    refine x_end rfl ?_
    refine k_then ?_
    refine c_norm [(2, .pointer (some ⟨b3, 0, none⟩)), (3, .pointer (some ⟨b5, 0, none⟩)), (7, .slice a13_l14 (d13_l14).length c12), (8, .int .i64 x_s8_l14), (26, .bool (decide (x_s8_l14 < ((p0_0).length : Int))))] ⟨rfl, rfl, rfl, rfl, rfl, trivial⟩ (fun J => ?_)
    refine c_cond (decide (x_s8_l14 < ((p0_0).length : Int))) rfl (fun hb => ?_) (fun hb => ?_)
    · replace h := ite_t hb h
      refine c_skip ?_
      refine k_then ?_
      refine c_norm [(2, .pointer (some ⟨b3, 0, none⟩)), (3, .pointer (some ⟨b5, 0, none⟩)), (7, .slice a13_l14 (d13_l14).length c12), (8, .int .i64 x_s8_l14)] ⟨rfl, rfl, rfl, rfl, trivial⟩ (fun J => ?_)
      refine c_seq ?_
      refine c_block ?_
      refine c_seq ?_
      refine c_seq ?_
      refine c_plain ?_
      refine x_fieldAddr (xv := .pointer (some ⟨b3, 0, none⟩)) (.pointer (some ⟨b3, 0, none⟩)) rfl rfl rfl (reads_field tfld27_0 _ _) ?_
      refine x_load (xv := .pointer (some ⟨b3, 0, none⟩)) (.slice a_p0_0 (p0_0).length c_p0_0) rfl rfl rfl (reads_box tcell25 hb3 (fun h => by cases h) 0 _ rfl) ?_
      refine x_pure 1 [(31, .int .i64 x_s8_l14)] _ _ _ (by kernel_rfl) ?_
      obtain ⟨x17, hx17, h⟩ := bind_some h
      obtain ⟨ad17, cs17, hr17, hc17, hR⟩ := reads_index (Mo := []) tsl25 hs_p0_0 hx17
      obtain ⟨_, _, rfl, rfl, ⟨_, _, rfl, rfl, ⟨_, _, rfl, rfl, rfl⟩⟩⟩ := hR
      refine x_indexAddr (xv := .slice a_p0_0 (p0_0).length c_p0_0) (yv := .int .i64 x_s8_l14) (.pointer (some ad17)) rfl rfl rfl rfl hr17 ?_
      refine x_fieldAddr (xv := .pointer (some ad17)) (.pointer (some (Addr.add ad17 2))) rfl rfl rfl (reads_field tfld39_2 _ _) ?_
      refine x_load (xv := .pointer (some (Addr.add ad17 2))) (.int .i64 x17.2.2.1) rfl rfl rfl (reads_cell tcell3 hc17 (fun _ h => by cases h) 2 _ rfl) ?_
      refine x_pure 1 [(9, .int .i64 x17.2.2.1)] _ _ _ (by kernel_rfl) ?_
      refine x_end rfl ?_
      refine k_then ?_
      refine c_norm [(2, .pointer (some ⟨b3, 0, none⟩)), (3, .pointer (some ⟨b5, 0, none⟩)), (7, .slice a13_l14 (d13_l14).length c12), (8, .int .i64 x_s8_l14), (9, .int .i64 x17.2.2.1)] ⟨rfl, rfl, rfl, rfl, rfl, trivial⟩ (fun J => ?_)
      refine c_block ?_
      obtain ⟨d19, hd19, h19⟩ := bind_some h
      obtain ⟨m19, hd19⟩ := loop_some hd19
      refine c_loop (loop_rule hmx (σ := Nat × (List Int) × Int × Option Addr) (fun s => match s with | (_, d13_l19, b_s9_l19, a13_l19) => [(2, .pointer (some ⟨b3, 0, none⟩)), (3, .pointer (some ⟨b5, 0, none⟩)), (7, .slice a13_l19 (d13_l19).length c12), (8, .int .i64 x_s8_l14), (9, .int .i64 b_s9_l19)]) (fun s w' => match s with | (m, d13_l19, b_s9_l19, a13_l19) => loopN (r14_Loads_L19 p0_0 p1_0 p1_1 x_s8_l14) m (d13_l19, b_s9_l19) = some d19 ∧ Ev [] w w' ∧ MS w' [[b3], [b5], blk a13_l19, M] ∧ FR w.heap.size [[b3], [b5], blk a13_l19] ∧ SlR (eProd (eInt .i64) (eProd (eInt .i64) (eProd (eInt .i64) (eInt .i64)))) w' (fl [[b3], [b5], blk a13_l19, M]) a_p0_0 c_p0_0 p0_0 ∧ w'.heap[b3]? = some (.cells #[.slice a_p0_0 (p0_0).length c_p0_0, .int .i64 p0_1] 27 (0, 0)) ∧ SlR (eInt .i64) w' (fl [[b3], [b5], blk a13_l19, M]) a_p1_1 c_p1_1 p1_1 ∧ w'.heap[b5]? = some (.cells #[.int .i64 p1_0, .slice a_p1_1 (p1_1).length c_p1_1] 30 (0, 0)) ∧ OwnS (eInt .i64) 3 w' (fl [[b3], [b5], blk a13_l19, M]) a13_l19 c12 d13_l19) (fun s => s.1) (m19, d13_l14, x17.2.2.1, a13_l14) ⟨rfl, rfl, rfl, rfl, rfl, trivial⟩ ⟨hd19, hev, hms, hfr, hs_p0_0, hb3, hs_p1_1, hb5, ho12⟩ ?_)
      rintro ⟨m19, d13_l19, b_s9_l19, a13_l19⟩ J wl19 ⟨hn19, hev, hms, hfr, hs_p0_0, hb3, hs_p1_1, hb5, ho12⟩
      rcases m19 with _ | m19
      · exact (loopN_zero hn19).elim
      obtain ⟨t19, h, hn19⟩ := bind_some hn19
      refine c_seq ?_
      refine c_seq ?_
      refine c_plain ?_
      refine x_pure 1 [(35, .int .i64 b_s9_l19)] _ _ _ (by kernel_rfl) ?_
      refine x_fieldAddr (xv := .pointer (some ⟨b5, 0, none⟩)) (.pointer (some ⟨b5, 0, none⟩)) rfl rfl rfl (reads_field tfld30_0 _ _) ?_
      refine x_load (xv := .pointer (some ⟨b5, 0, none⟩)) (.int .i64 p1_0) rfl rfl rfl (reads_box tcell3 hb5 (fun h => by cases h) 0 _ rfl) ?_
      refine x_pure 1 [(38, .bool (decide (b_s9_l19 < p1_0)))] _ _ _ (by kernel_rfl) ?_
      refine x_end rfl ?_
      refine k_then ?_
      refine c_norm [(2, .pointer (some ⟨b3, 0, none⟩)), (3, .pointer (some ⟨b5, 0, none⟩)), (7, .slice a13_l19 (d13_l19).length c12), (8, .int .i64 x_s8_l14), (9, .int .i64 b_s9_l19), (38, .bool (decide (b_s9_l19 < p1_0)))] ⟨rfl, rfl, rfl, rfl, rfl, rfl, trivial⟩ (fun J => ?_)
      refine c_cond (decide (b_s9_l19 < p1_0)) rfl (fun hb => ?_) (fun hb => ?_)
      · replace h := ite_t hb h
        refine c_skip ?_
        refine k_then ?_
        refine c_norm [(2, .pointer (some ⟨b3, 0, none⟩)), (3, .pointer (some ⟨b5, 0, none⟩)), (7, .slice a13_l19 (d13_l19).length c12), (8, .int .i64 x_s8_l14), (9, .int .i64 b_s9_l19)] ⟨rfl, rfl, rfl, rfl, rfl, trivial⟩ (fun J => ?_)
        refine c_seq ?_
        refine c_block ?_
        refine c_seq ?_
        refine c_plain ?_
        refine x_fieldAddr (xv := .pointer (some ⟨b5, 0, none⟩)) (.pointer (some ⟨b5, 1, none⟩)) rfl rfl rfl (reads_field tfld30_1 _ _) ?_
        refine x_load (xv := .pointer (some ⟨b5, 1, none⟩)) (.slice a_p1_1 (p1_1).length c_p1_1) rfl rfl rfl (reads_box tcell22 hb5 (fun h => by cases h) 1 _ rfl) ?_
        refine x_pure 1 [(43, .int .i64 x_s8_l14)] _ _ _ (by kernel_rfl) ?_
        obtain ⟨x21, hx21, h⟩ := bind_some h
        obtain ⟨ad21, cs21, hr21, hc21, hR⟩ := reads_index (Mo := []) tsl22 hs_p1_1 hx21
        obtain rfl := hR
        refine x_indexAddr (xv := .slice a_p1_1 (p1_1).length c_p1_1) (yv := .int .i64 x_s8_l14) (.pointer (some ad21)) rfl rfl rfl rfl hr21 ?_
        refine x_load (xv := .pointer (some ad21)) (.int .i64 x21) rfl rfl rfl (reads_cell0 tcell3 hc21 (fun _ h => by cases h)) ?_
        refine x_pure 1 [(46, .int .i64 b_s9_l19)] _ _ _ (by kernel_rfl) ?_
        refine x_binop (.int .i64 (Int.fdiv x21 (2 ^ (min (Int.toNat (b_s9_l19)) IntKind.i64.bits)))) (.int .i64 x21) (.int .i64 b_s9_l19) rfl rfl rfl rfl (vb_shr (guard_l h)) ?_
        replace h := guard_r h
        refine x_pure 2 [(48, .int .i64 (IntKind.i64.wrap ↑(BitVec.ofInt IntKind.i64.bits (Int.fdiv x21 (2 ^ (min (Int.toNat (b_s9_l19)) IntKind.i64.bits))) &&& BitVec.ofInt IntKind.i64.bits 1).toNat)), (49, .bool ((IntKind.i64.wrap ↑(BitVec.ofInt IntKind.i64.bits (Int.fdiv x21 (2 ^ (min (Int.toNat (b_s9_l19)) IntKind.i64.bits))) &&& BitVec.ofInt IntKind.i64.bits 1).toNat) == 1))] _ _ _ (by kernel_rfl) ?_
        refine x_end rfl ?_
        refine k_then ?_
        refine c_norm [(2, .pointer (some ⟨b3, 0, none⟩)), (3, .pointer (some ⟨b5, 0, none⟩)), (7, .slice a13_l19 (d13_l19).length c12), (8, .int .i64 x_s8_l14), (9, .int .i64 b_s9_l19), (49, .bool ((IntKind.i64.wrap ↑(BitVec.ofInt IntKind.i64.bits (Int.fdiv x21 (2 ^ (min (Int.toNat (b_s9_l19)) IntKind.i64.bits))) &&& BitVec.ofInt IntKind.i64.bits 1).toNat) == 1))] ⟨rfl, rfl, rfl, rfl, rfl, rfl, trivial⟩ (fun J => ?_)
        refine c_cond ((IntKind.i64.wrap ↑(BitVec.ofInt IntKind.i64.bits (Int.fdiv x21 (2 ^ (min (Int.toNat (b_s9_l19)) IntKind.i64.bits))) &&& BitVec.ofInt IntKind.i64.bits 1).toNat) == 1) rfl (fun hb => ?_) (fun hb => ?_)
        · replace h := ite_t hb h
          refine c_drawn [] [(0, false), (1, false), (2, false), (3, false), (4, false), (5, false), (6, false), (7, false), (8, false), (9, false), (10, false), (11, false), (12, true)] _ (by kernel_rfl) rfl ?_
          have hst := Stp.ext (ls := [[b3], [b5], blk a13_l19, M]) (Ev.drew wl19)
          replace hb3 := (Ev.drew wl19).box hb3 (fun h => by cases h)
          replace hs_p0_0 := hs_p0_0.step hst
          replace hb5 := (Ev.drew wl19).box hb5 (fun h => by cases h)
          replace hs_p1_1 := hs_p1_1.step hst
          replace ho12 := ho12.step hst (Ev.drew wl19) (fun _ _ h => by cases h)
          replace hms := hms.ev (Ev.drew wl19)
          replace hev := hev.ext (Ev.drew wl19)
          refine x_pure 2 [(50, .slice a13_l19 (d13_l19).length c12), (51, .int .i64 b_s9_l19)] _ _ _ (by kernel_rfl) ?_
          obtain ⟨x23, hx23, h⟩ := bind_some h
          obtain ⟨g23, cs23, ha, hr23, hc23, hR⟩ := own_index (Mo := []) tsl22 ho12 hx23
          subst ha
          obtain rfl := hR
          refine x_indexAddr (xv := .slice (some ⟨g23, 0, none⟩) (d13_l19).length c12) (yv := .int .i64 b_s9_l19) (.pointer (some ⟨g23, (Int.toNat b_s9_l19) * (eInt .i64).n, none⟩)) rfl rfl rfl rfl hr23 ?_
          refine x_load (xv := .pointer (some ⟨g23, (Int.toNat b_s9_l19) * (eInt .i64).n, none⟩)) (.int .i64 x23) rfl rfl rfl (reads_cell0 tcell3 hc23 (fun _ h => by cases h)) ?_
          refine x_fieldAddr (xv := .pointer (some ⟨b3, 0, none⟩)) (.pointer (some ⟨b3, 0, none⟩)) rfl rfl rfl (reads_field tfld27_0 _ _) ?_
          refine x_load (xv := .pointer (some ⟨b3, 0, none⟩)) (.slice a_p0_0 (p0_0).length c_p0_0) rfl rfl rfl (reads_box tcell25 hb3 (fun h => by cases h) 0 _ rfl) ?_
          refine x_pure 1 [(56, .int .i64 x_s8_l14)] _ _ _ (by kernel_rfl) ?_
          obtain ⟨x25, hx25, h⟩ := bind_some h
          obtain ⟨ad25, cs25, hr25, hc25, hR⟩ := reads_index (Mo := []) tsl25 hs_p0_0 hx25
          obtain ⟨_, _, rfl, rfl, ⟨_, _, rfl, rfl, ⟨_, _, rfl, rfl, rfl⟩⟩⟩ := hR
          refine x_indexAddr (xv := .slice a_p0_0 (p0_0).length c_p0_0) (yv := .int .i64 x_s8_l14) (.pointer (some ad25)) rfl rfl rfl rfl hr25 ?_
          refine x_fieldAddr (xv := .pointer (some ad25)) (.pointer (some (Addr.add ad25 3))) rfl rfl rfl (reads_field tfld39_3 _ _) ?_
          refine x_load (xv := .pointer (some (Addr.add ad25 3))) (.int .i64 x25.2.2.2) rfl rfl rfl (reads_cell tcell3 hc25 (fun _ h => by cases h) 3 _ rfl) ?_
          refine x_pure 1 [(60, .int .i64 (IntKind.i64.wrap (x23 + x25.2.2.2)))] _ _ _ (by kernel_rfl) ?_
          obtain ⟨x27, hx27, h⟩ := bind_some h
          obtain ⟨g27, cs27, ha, hr27, hc27, hR⟩ := own_index (Mo := []) tsl22 ho12 hx27
          have hg : g23 = g27 := by cases ha; rfl
          subst hg
          obtain rfl := hR
          refine x_indexAddr (xv := .slice (some ⟨g23, 0, none⟩) (d13_l19).length c12) (yv := .int .i64 b_s9_l19) (.pointer (some ⟨g23, (Int.toNat b_s9_l19) * (eInt .i64).n, none⟩)) rfl rfl rfl rfl hr27 ?_
          obtain ⟨w29, hr29, he29, ho29⟩ := own_store (y := IntKind.i64.wrap (x23 + x25.2.2.2)) 0 (.int .i64 (IntKind.i64.wrap (x23 + x25.2.2.2))) tcell3 ho12 (mem_flat 2 rfl _ (List.mem_singleton.2 rfl)) hx27 rfl rfl (fun _ _ _ _ => by simp_all [eInt, eBool])
          refine x_store w29 (xv := .pointer (some ⟨g23, (Int.toNat b_s9_l19) * (eInt .i64).n, none⟩)) (yv := .int .i64 (IntKind.i64.wrap (x23 + x25.2.2.2))) rfl rfl rfl rfl hr29 ?_
          refine ⟨.inl rfl, ?_⟩
          have hst := Stp.ev' (ls := [[b3], [b5], blk (some ⟨g23, 0, none⟩), M]) he29 (mem_flat 2 rfl)
          replace hb3 := he29.box hb3 (hms.apart 0 2 rfl rfl rfl _ (List.mem_singleton.2 rfl))
          replace hs_p0_0 := hs_p0_0.step hst
          replace hb5 := he29.box hb5 (hms.apart 1 2 rfl rfl rfl _ (List.mem_singleton.2 rfl))
          replace hs_p1_1 := hs_p1_1.step hst
          replace hc25 := hc25.step hst
          replace hms := hms.ev he29
          replace hev := hev.then he29 (fun b hb => .inr (hfr.at 2 rfl b hb))
          replace ho12 := ho29
          have hsl : (Value.slice (some ⟨g23, 0, none⟩) (d13_l19).length c12) = (Value.slice (some ⟨g23, 0, none⟩) ((d13_l19.set (Int.toNat b_s9_l19) (IntKind.i64.wrap (x23 + x25.2.2.2)))).length c12) := by rw [List.length_set]
          try rw [hsl]
          clear hsl
          refine x_end rfl ?_
          refine k_block ?_
          refine k_then ?_
          refine c_norm [(2, .pointer (some ⟨b3, 0, none⟩)), (3, .pointer (some ⟨b5, 0, none⟩)), (7, .slice (some ⟨g23, 0, none⟩) ((d13_l19.set (Int.toNat b_s9_l19) (IntKind.i64.wrap (x23 + x25.2.2.2)))).length c12), (8, .int .i64 x_s8_l14), (9, .int .i64 b_s9_l19)] ⟨rfl, rfl, rfl, rfl, rfl, trivial⟩ (fun J => ?_)
          refine c_plain ?_
          refine x_pure 3 [(39, .int .i64 b_s9_l19), (40, .int .i64 (IntKind.i64.wrap (b_s9_l19 + 1))), (9, .int .i64 (IntKind.i64.wrap (b_s9_l19 + 1)))] _ _ _ (by kernel_rfl) ?_
          refine x_end rfl ?_
          have hx := some_inj h
          subst hx
          exact k_then ⟨(m19, (d13_l19.set (Int.toNat b_s9_l19) (IntKind.i64.wrap (x23 + x25.2.2.2))), IntKind.i64.wrap (b_s9_l19 + 1), (some ⟨g23, 0, none⟩)), ⟨rfl, rfl, rfl, rfl, rfl, trivial⟩, ⟨hn19, hev, hms, hfr, hs_p0_0, hb3, hs_p1_1, hb5, ho12⟩, Nat.lt_succ_self _⟩
        · replace h := ite_f hb h
          refine c_skip ?_
          refine k_block ?_
          refine k_then ?_
          refine c_norm [(2, .pointer (some ⟨b3, 0, none⟩)), (3, .pointer (some ⟨b5, 0, none⟩)), (7, .slice a13_l19 (d13_l19).length c12), (8, .int .i64 x_s8_l14), (9, .int .i64 b_s9_l19)] ⟨rfl, rfl, rfl, rfl, rfl, trivial⟩ (fun J => ?_)
          refine c_plain ?_
          refine x_pure 3 [(39, .int .i64 b_s9_l19), (40, .int .i64 (IntKind.i64.wrap (b_s9_l19 + 1))), (9, .int .i64 (IntKind.i64.wrap (b_s9_l19 + 1)))] _ _ _ (by kernel_rfl) ?_
          refine x_end rfl ?_
          have hx := some_inj h
          subst hx
          exact k_then ⟨(m19, d13_l19, IntKind.i64.wrap (b_s9_l19 + 1), a13_l19), ⟨rfl, rfl, rfl, rfl, rfl, trivial⟩, ⟨hn19, hev, hms, hfr, hs_p0_0, hb3, hs_p1_1, hb5, ho12⟩, Nat.lt_succ_self _⟩
      · replace h := ite_f hb h
        refine c_exit ?_
        refine k_then_exit ?_
        have hx := some_inj h
        subst hx
        have hy := some_inj hn19
        subst hy
        replace h := h19
        refine k_then_exit ?_
        refine k_block_in ?_
        refine k_then ?_
        refine c_norm [(2, .pointer (some ⟨b3, 0, none⟩)), (3, .pointer (some ⟨b5, 0, none⟩)), (7, .slice a13_l19 (d13_l19).length c12), (8, .int .i64 x_s8_l14)] ⟨rfl, rfl, rfl, rfl, trivial⟩ (fun J => ?_)
        refine c_drawn [] [(0, false), (1, false), (2, false), (3, false), (4, false), (5, false), (6, false), (7, false), (8, false), (9, false), (10, false), (11, false), (12, false), (13, false), (14, false), (15, false), (16, false), (17, false), (18, false), (19, false), (20, true)] _ (by kernel_rfl) rfl ?_
        have hst := Stp.ext (ls := [[b3], [b5], blk a13_l19, M]) (Ev.drew wl19)
        replace hb3 := (Ev.drew wl19).box hb3 (fun h => by cases h)
        replace hs_p0_0 := hs_p0_0.step hst
        replace hb5 := (Ev.drew wl19).box hb5 (fun h => by cases h)
        replace hs_p1_1 := hs_p1_1.step hst
        replace ho12 := ho12.step hst (Ev.drew wl19) (fun _ _ h => by cases h)
        replace hms := hms.ev (Ev.drew wl19)
        replace hev := hev.ext (Ev.drew wl19)
        refine x_pure 1 [(62, .slice a13_l19 (d13_l19).length c12)] _ _ _ (by kernel_rfl) ?_
        refine x_fieldAddr (xv := .pointer (some ⟨b5, 0, none⟩)) (.pointer (some ⟨b5, 0, none⟩)) rfl rfl rfl (reads_field tfld30_0 _ _) ?_
        refine x_load (xv := .pointer (some ⟨b5, 0, none⟩)) (.int .i64 p1_0) rfl rfl rfl (reads_box tcell3 hb5 (fun h => by cases h) 0 _ rfl) ?_
        refine x_fieldAddr (xv := .pointer (some ⟨b3, 0, none⟩)) (.pointer (some ⟨b3, 0, none⟩)) rfl rfl rfl (reads_field tfld27_0 _ _) ?_
        refine x_load (xv := .pointer (some ⟨b3, 0, none⟩)) (.slice a_p0_0 (p0_0).length c_p0_0) rfl rfl rfl (reads_box tcell25 hb3 (fun h => by cases h) 0 _ rfl) ?_
        refine x_pure 1 [(67, .int .i64 x_s8_l14)] _ _ _ (by kernel_rfl) ?_
        obtain ⟨x30, hx30, h⟩ := bind_some h
        obtain ⟨ad30, cs30, hr30, hc30, hR⟩ := reads_index (Mo := []) tsl25 hs_p0_0 hx30
        obtain ⟨_, _, rfl, rfl, ⟨_, _, rfl, rfl, ⟨_, _, rfl, rfl, rfl⟩⟩⟩ := hR
        refine x_indexAddr (xv := .slice a_p0_0 (p0_0).length c_p0_0) (yv := .int .i64 x_s8_l14) (.pointer (some ad30)) rfl rfl rfl rfl hr30 ?_
        refine x_fieldAddr (xv := .pointer (some ad30)) (.pointer (some (Addr.add ad30 0))) rfl rfl rfl (reads_field tfld39_0 _ _) ?_
        refine x_load (xv := .pointer (some (Addr.add ad30 0))) (.int .i64 x30.1) rfl rfl rfl (reads_cell tcell3 hc30 (fun _ h => by cases h) 0 _ rfl) ?_
        refine x_pure 1 [(71, .int .i64 (IntKind.i64.wrap (p1_0 + x30.1)))] _ _ _ (by kernel_rfl) ?_
        obtain ⟨x32, hx32, h⟩ := bind_some h
        obtain ⟨g32, cs32, ha, hr32, hc32, hR⟩ := own_index (Mo := []) tsl22 ho12 hx32
        subst ha
        obtain rfl := hR
        refine x_indexAddr (xv := .slice (some ⟨g32, 0, none⟩) (d13_l19).length c12) (yv := .int .i64 (IntKind.i64.wrap (p1_0 + x30.1))) (.pointer (some ⟨g32, (Int.toNat (IntKind.i64.wrap (p1_0 + x30.1))) * (eInt .i64).n, none⟩)) rfl rfl rfl rfl hr32 ?_
        refine x_load (xv := .pointer (some ⟨g32, (Int.toNat (IntKind.i64.wrap (p1_0 + x30.1))) * (eInt .i64).n, none⟩)) (.int .i64 x32) rfl rfl rfl (reads_cell0 tcell3 hc32 (fun _ h => by cases h)) ?_
        refine x_fieldAddr (xv := .pointer (some ⟨b3, 0, none⟩)) (.pointer (some ⟨b3, 0, none⟩)) rfl rfl rfl (reads_field tfld27_0 _ _) ?_
        refine x_load (xv := .pointer (some ⟨b3, 0, none⟩)) (.slice a_p0_0 (p0_0).length c_p0_0) rfl rfl rfl (reads_box tcell25 hb3 (fun h => by cases h) 0 _ rfl) ?_
        refine x_pure 1 [(76, .int .i64 x_s8_l14)] _ _ _ (by kernel_rfl) ?_
        obtain ⟨x34, hx34, h⟩ := bind_some h
        obtain ⟨ad34, cs34, hr34, hc34, hR⟩ := reads_index (Mo := []) tsl25 hs_p0_0 hx34
        obtain ⟨_, _, rfl, rfl, ⟨_, _, rfl, rfl, ⟨_, _, rfl, rfl, rfl⟩⟩⟩ := hR
        refine x_indexAddr (xv := .slice a_p0_0 (p0_0).length c_p0_0) (yv := .int .i64 x_s8_l14) (.pointer (some ad34)) rfl rfl rfl rfl hr34 ?_
        refine x_fieldAddr (xv := .pointer (some ad34)) (.pointer (some (Addr.add ad34 3))) rfl rfl rfl (reads_field tfld39_3 _ _) ?_
        refine x_load (xv := .pointer (some (Addr.add ad34 3))) (.int .i64 x34.2.2.2) rfl rfl rfl (reads_cell tcell3 hc34 (fun _ h => by cases h) 3 _ rfl) ?_
        refine x_pure 1 [(80, .int .i64 (IntKind.i64.wrap (x32 + x34.2.2.2)))] _ _ _ (by kernel_rfl) ?_
        obtain ⟨x36, hx36, h⟩ := bind_some h
        obtain ⟨g36, cs36, ha, hr36, hc36, hR⟩ := own_index (Mo := []) tsl22 ho12 hx36
        have hg : g32 = g36 := by cases ha; rfl
        subst hg
        obtain rfl := hR
        refine x_indexAddr (xv := .slice (some ⟨g32, 0, none⟩) (d13_l19).length c12) (yv := .int .i64 (IntKind.i64.wrap (p1_0 + x30.1))) (.pointer (some ⟨g32, (Int.toNat (IntKind.i64.wrap (p1_0 + x30.1))) * (eInt .i64).n, none⟩)) rfl rfl rfl rfl hr36 ?_
        obtain ⟨w38, hr38, he38, ho38⟩ := own_store (y := IntKind.i64.wrap (x32 + x34.2.2.2)) 0 (.int .i64 (IntKind.i64.wrap (x32 + x34.2.2.2))) tcell3 ho12 (mem_flat 2 rfl _ (List.mem_singleton.2 rfl)) hx36 rfl rfl (fun _ _ _ _ => by simp_all [eInt, eBool])
        refine x_store w38 (xv := .pointer (some ⟨g32, (Int.toNat (IntKind.i64.wrap (p1_0 + x30.1))) * (eInt .i64).n, none⟩)) (yv := .int .i64 (IntKind.i64.wrap (x32 + x34.2.2.2))) rfl rfl rfl rfl hr38 ?_
        refine ⟨.inl rfl, ?_⟩
        have hst := Stp.ev' (ls := [[b3], [b5], blk (some ⟨g32, 0, none⟩), M]) he38 (mem_flat 2 rfl)
        replace hb3 := he38.box hb3 (hms.apart 0 2 rfl rfl rfl _ (List.mem_singleton.2 rfl))
        replace hs_p0_0 := hs_p0_0.step hst
        replace hb5 := he38.box hb5 (hms.apart 1 2 rfl rfl rfl _ (List.mem_singleton.2 rfl))
        replace hs_p1_1 := hs_p1_1.step hst
        replace hc30 := hc30.step hst
        replace hc34 := hc34.step hst
        replace hms := hms.ev he38
        replace hev := hev.then he38 (fun b hb => .inr (hfr.at 2 rfl b hb))
        replace ho12 := ho38
        have hsl : (Value.slice (some ⟨g32, 0, none⟩) (d13_l19).length c12) = (Value.slice (some ⟨g32, 0, none⟩) ((d13_l19.set (Int.toNat (IntKind.i64.wrap (p1_0 + x30.1))) (IntKind.i64.wrap (x32 + x34.2.2.2)))).length c12) := by rw [List.length_set]
        try rw [hsl]
        clear hsl
        refine x_end rfl ?_
        refine k_block ?_
        refine k_then ?_
        refine c_norm [(2, .pointer (some ⟨b3, 0, none⟩)), (3, .pointer (some ⟨b5, 0, none⟩)), (7, .slice (some ⟨g32, 0, none⟩) ((d13_l19.set (Int.toNat (IntKind.i64.wrap (p1_0 + x30.1))) (IntKind.i64.wrap (x32 + x34.2.2.2)))).length c12), (8, .int .i64 x_s8_l14)] ⟨rfl, rfl, rfl, rfl, trivial⟩ (fun J => ?_)
        refine c_plain ?_
        refine x_pure 3 [(27, .int .i64 x_s8_l14), (28, .int .i64 (IntKind.i64.wrap (x_s8_l14 + 1))), (8, .int .i64 (IntKind.i64.wrap (x_s8_l14 + 1)))] _ _ _ (by kernel_rfl) ?_
        refine x_end rfl ?_
        have hx := some_inj h
        subst hx
        exact k_then ⟨(m14, (d13_l19.set (Int.toNat (IntKind.i64.wrap (p1_0 + x30.1))) (IntKind.i64.wrap (x32 + x34.2.2.2))), IntKind.i64.wrap (x_s8_l14 + 1), (some ⟨g32, 0, none⟩)), ⟨rfl, rfl, rfl, rfl, trivial⟩, ⟨hn14, hev, hms, hfr, hs_p0_0, hb3, hs_p1_1, hb5, ho12⟩, Nat.lt_succ_self _⟩
    · replace h := ite_f hb h
      refine c_exit ?_
      refine k_then_exit ?_
      have hx := some_inj h
      subst hx
      have hy := some_inj hn14
      subst hy
      replace h := h14
      refine k_then_exit ?_
      refine k_block_in ?_
      refine k_then ?_
      refine c_norm [(7, .slice a13_l14 (d13_l14).length c12)] ⟨rfl, trivial⟩ (fun J => ?_)
      refine c_seq ?_
      refine c_plain ?_
      refine x_pure 3 [(82, .slice a13_l14 (d13_l14).length c12), (4, .slice a13_l14 (d13_l14).length c12), (5, .int .i64 0)] _ _ _ (by kernel_rfl) ?_
      refine x_end rfl ?_
      refine k_then ?_
      refine c_norm [(4, .slice a13_l14 (d13_l14).length c12), (5, .int .i64 0)] ⟨rfl, rfl, trivial⟩ (fun J => ?_)
      refine c_ret ?_
      refine r_ret (r_vals [.slice a13_l14 (d13_l14).length c12, .int .i64 0] ⟨rfl, rfl, trivial⟩ ?_)
      have hx := some_inj h
      subst hx
      have hmr : MS wl14 [blk a13_l14, M] := hms.pick [some 2, some 3] _ rfl
      have hsu : ∀ x ∈ fl [blk a13_l14, M], x ∈ fl [[b3], [b5], blk a13_l14, M] := pick_sub [some 2, some 3] _ rfl
      have hfe : FR w.heap.size [blk a13_l14] := hfr.pick [some 2] _ rfl
      exact ⟨a13_l14, c12, rfl, hev, hmr, hfe, ho12.sub hsu⟩
def r14_Pushes (p0_0 : List (Int × Int × Int × Int)) (p0_1 : Int) (p1_0 : Int) (p1_1 : List Int) : Option (Int × Int) :=
((r14_Valid p0_0 p0_1 p1_0 p1_1).bind fun x8 =>
(if (x8 != 0) = true then
some (0, x8)
else
((r14_At p0_0 p0_1 p1_0 p1_1 p1_0).bind fun x10 =>
some (x10.2.2.2, 0))))

theorem r14_Pushes_w (a_p0_0 : Option Addr) (c_p0_0 : Nat) (p0_0 : List (Int × Int × Int × Int)) (p0_1 : Int) (p1_0 : Int) (a_p1_1 : Option Addr) (c_p1_1 : Nat) (p1_1 : List Int) (r : Int × Int) (w : World) (M : List Nat) (hms : MS w [M]) (hs_p0_0 : SlR (eProd (eInt .i64) (eProd (eInt .i64) (eProd (eInt .i64) (eInt .i64)))) w (fl [M]) a_p0_0 c_p0_0 p0_0) (hs_p1_1 : SlR (eInt .i64) w (fl [M]) a_p1_1 c_p1_1 p1_1) (h : r14_Pushes p0_0 p0_1 p1_0 p1_1 = some r) : CallVC Try.prog 40 [.agg #[.slice a_p0_0 (p0_0).length c_p0_0, .int .i64 p0_1], .agg #[.int .i64 p1_0, .slice a_p1_1 (p1_1).length c_p1_1]] w fun v w' => v = .tuple #[.int .i64 r.1, .int .i64 r.2] ∧ Ev [] w w' := by
  refine calls_vc hmx Try.func40 (by kernel_rfl) rfl (rs := [.tmp 4, .tmp 5]) rfl (by kernel_rfl) (args := [.agg #[.slice a_p0_0 (p0_0).length c_p0_0, .int .i64 p0_1], .agg #[.int .i64 p1_0, .slice a_p1_1 (p1_1).length c_p1_1]]) rfl ?_
  have hev : Ev [] w w := Ev.refl _ _
  have hfr : FR w.heap.size [] := FR.nil _
  refine c_seq ?_
  refine c_plain ?_
  refine x_box (xv := .agg #[.slice a_p0_0 (p0_0).length c_p0_0, .int .i64 p0_1]) rfl rfl rfl (fun b3 w3 hq3 hb3 he3 _ => ?_)
  replace hb3 : w3.heap[b3]? = some (.cells #[.slice a_p0_0 (p0_0).length c_p0_0, .int .i64 p0_1] 27 (0, 0)) := hb3
  refine ⟨.inl rfl, ?_⟩
  have hst := Stp.box (ls := [M]) he3 hq3
  replace hs_p0_0 := hs_p0_0.step hst
  replace hs_p1_1 := hs_p1_1.step hst
  replace hms := hms.box he3 hq3 hb3
  replace hfr := hfr.box hev.size hq3
  replace hev := hev.ext he3
  refine x_box (xv := .agg #[.int .i64 p1_0, .slice a_p1_1 (p1_1).length c_p1_1]) rfl rfl rfl (fun b5 w5 hq5 hb5 he5 _ => ?_)
  replace hb5 : w5.heap[b5]? = some (.cells #[.int .i64 p1_0, .slice a_p1_1 (p1_1).length c_p1_1] 30 (0, 0)) := hb5
  refine ⟨.inl rfl, ?_⟩
  have hst := Stp.box (ls := [[b3], M]) he5 hq5
  replace hs_p0_0 := hs_p0_0.step hst
  replace hs_p1_1 := hs_p1_1.step hst
  replace hb3 := he5.box hb3 (fun h => by cases h)
  replace hms := hms.box he5 hq5 hb5
  replace hfr := hfr.box hev.size hq5
  replace hev := hev.ext he5
  refine x_pure 2 [(4, .int .i64 0), (5, .int .i64 0)] _ _ _ (by kernel_rfl) ?_
  refine x_end rfl ?_
  refine k_then ?_
  refine c_norm [(2, .pointer (some ⟨b3, 0, none⟩)), (3, .pointer (some ⟨b5, 0, none⟩))] ⟨rfl, rfl, trivial⟩ (fun J => ?_)
  refine c_seq ?_
  refine c_seq ?_
  refine c_plain ?_
  refine x_load (xv := .pointer (some ⟨b3, 0, none⟩)) (.agg #[.slice a_p0_0 (p0_0).length c_p0_0, .int .i64 p0_1]) rfl rfl rfl (reads_boxagg 0 [.slice a_p0_0 (p0_0).length c_p0_0, .int .i64 p0_1] tagg27 hb3 (fun h => by cases h) rfl) ?_
  refine x_load (xv := .pointer (some ⟨b5, 0, none⟩)) (.agg #[.int .i64 p1_0, .slice a_p1_1 (p1_1).length c_p1_1]) rfl rfl rfl (reads_boxagg 0 [.int .i64 p1_0, .slice a_p1_1 (p1_1).length c_p1_1] tagg30 hb5 (fun h => by cases h) rfl) ?_
  obtain ⟨x8, hx, h⟩ := bind_some h
  have hpk : MS w5 ([] ++ [[b5], [b3], M]) := hms.pick [some 0, some 1, some 2] _ rfl
  have hsb0 : ∀ x ∈ fl ([] ++ [[b5], [b3], M]), x ∈ fl [[b5], [b3], M] := pick_sub [some 0, some 1, some 2] _ rfl
  have hsb : ∀ x ∈ fl ([] ++ [(fl [[b5], [b3], M])]), x ∈ fl [[b5], [b3], M] := fun x hx => hsb0 x (fl_unfold x hx)
  have hcall := r14_Valid_w a_p0_0 c_p0_0 p0_0 p0_1 p1_0 a_p1_1 c_p1_1 p1_1 _ w5 (fl [[b5], [b3], M]) (MS.fold (P := []) hpk) (hs_p0_0.sub hsb) (hs_p1_1.sub hsb) hx
  refine x_call 37 #[] #[] [.agg #[.slice a_p0_0 (p0_0).length c_p0_0, .int .i64 p0_1], .agg #[.int .i64 p1_0, .slice a_p1_1 (p1_1).length c_p1_1]] _ rfl rfl rfl rfl hcall ?_
  rintro v w9 ⟨rfl, he9⟩
  clear hcall hx
  refine ⟨.inl rfl, ?_⟩
  have hst := Stp.ext (ls := [[b5], [b3], M]) he9
  replace hs_p0_0 := hs_p0_0.step hst
  replace hs_p1_1 := hs_p1_1.step hst
  replace hb3 := he9.box hb3 (fun h => by cases h)
  replace hb5 := he9.box hb5 (fun h => by cases h)
  replace hms := hms.ev he9
  replace hev := hev.ext he9
  clear hpk hsb hsb0
  refine x_pure 1 [(6, .int .i64 x8)] _ _ _ (by kernel_rfl) ?_
  refine x_end rfl ?_
  refine k_then ?_
  refine c_norm [(2, .pointer (some ⟨b3, 0, none⟩)), (3, .pointer (some ⟨b5, 0, none⟩)), (6, .int .i64 x8)] ⟨rfl, rfl, rfl, trivial⟩ (fun J => ?_)
  refine c_seq ?_
  refine c_plain ?_
  refine x_pure 2 [(10, .int .i64 x8), (11, .bool (x8 != 0))] _ _ _ (by kernel_rfl) ?_
  refine x_end rfl ?_
  refine k_then ?_
  refine c_norm [(2, .pointer (some ⟨b3, 0, none⟩)), (3, .pointer (some ⟨b5, 0, none⟩)), (6, .int .i64 x8), (11, .bool (x8 != 0))] ⟨rfl, rfl, rfl, rfl, trivial⟩ (fun J => ?_)
  refine c_cond (x8 != 0) rfl (fun hb => ?_) (fun hb => ?_)
  · replace h := ite_t hb h
    refine c_seq ?_
    refine c_plain ?_
    refine x_pure 3 [(12, .int .i64 x8), (4, .int .i64 0), (5, .int .i64 x8)] _ _ _ (by kernel_rfl) ?_
    refine x_end rfl ?_
    refine k_then ?_
    refine c_norm [(4, .int .i64 0), (5, .int .i64 x8)] ⟨rfl, rfl, trivial⟩ (fun J => ?_)
    refine c_ret ?_
    refine k_then_ret ?_
    refine r_ret (r_vals [.int .i64 0, .int .i64 x8] ⟨rfl, rfl, trivial⟩ ?_)
    have hx := some_inj h
    subst hx
    have hmr : MS w9 [M] := hms.pick [some 2] _ rfl
    have hsu : ∀ x ∈ fl [M], x ∈ fl [[b5], [b3], M] := pick_sub [some 2] _ rfl
    exact ⟨rfl, hev⟩
  · replace h := ite_f hb h
    refine c_skip ?_
    refine k_then ?_
    refine c_norm [(2, .pointer (some ⟨b3, 0, none⟩)), (3, .pointer (some ⟨b5, 0, none⟩))] ⟨rfl, rfl, trivial⟩ (fun J => ?_)
    refine c_seq ?_
    refine c_plain ?_
    refine x_load (xv := .pointer (some ⟨b3, 0, none⟩)) (.agg #[.slice a_p0_0 (p0_0).length c_p0_0, .int .i64 p0_1]) rfl rfl rfl (reads_boxagg 0 [.slice a_p0_0 (p0_0).length c_p0_0, .int .i64 p0_1] tagg27 hb3 (fun h => by cases h) rfl) ?_
    refine x_load (xv := .pointer (some ⟨b5, 0, none⟩)) (.agg #[.int .i64 p1_0, .slice a_p1_1 (p1_1).length c_p1_1]) rfl rfl rfl (reads_boxagg 0 [.int .i64 p1_0, .slice a_p1_1 (p1_1).length c_p1_1] tagg30 hb5 (fun h => by cases h) rfl) ?_
    refine x_fieldAddr (xv := .pointer (some ⟨b5, 0, none⟩)) (.pointer (some ⟨b5, 0, none⟩)) rfl rfl rfl (reads_field tfld30_0 _ _) ?_
    refine x_load (xv := .pointer (some ⟨b5, 0, none⟩)) (.int .i64 p1_0) rfl rfl rfl (reads_box tcell3 hb5 (fun h => by cases h) 0 _ rfl) ?_
    obtain ⟨x10, hx, h⟩ := bind_some h
    have hpk : MS w9 ([] ++ [[b5], [b3], M]) := hms.pick [some 0, some 1, some 2] _ rfl
    have hsb0 : ∀ x ∈ fl ([] ++ [[b5], [b3], M]), x ∈ fl [[b5], [b3], M] := pick_sub [some 0, some 1, some 2] _ rfl
    have hsb : ∀ x ∈ fl ([] ++ [(fl [[b5], [b3], M])]), x ∈ fl [[b5], [b3], M] := fun x hx => hsb0 x (fl_unfold x hx)
    have hcall := r14_At_w a_p0_0 c_p0_0 p0_0 p0_1 p1_0 a_p1_1 c_p1_1 p1_1 p1_0 _ w9 (fl [[b5], [b3], M]) (MS.fold (P := []) hpk) (hs_p0_0.sub hsb) (hs_p1_1.sub hsb) hx
    refine x_call 50 #[] #[] [.agg #[.slice a_p0_0 (p0_0).length c_p0_0, .int .i64 p0_1], .agg #[.int .i64 p1_0, .slice a_p1_1 (p1_1).length c_p1_1], .int .i64 p1_0] _ rfl rfl rfl rfl hcall ?_
    rintro v w11 ⟨a0_11, c0_11, B2_11, a3_11, c3_11, B5_11, rfl, he11, hmn11, hfn11, hf11_1, hf11_2⟩
    clear hcall hx
    refine ⟨.inl rfl, ?_⟩
    have hpk2 : MS w9 ([] ++ [[b5], [b3], M]) := hms.pick [some 0, some 1, some 2] _ rfl
    have hsb2 : ∀ x ∈ fl ([] ++ [[b5], [b3], M]), x ∈ fl [[b5], [b3], M] := pick_sub [some 0, some 1, some 2] _ rfl
    have hst0 := Stp.call (LS := [[b5], [b3], M]) (res := [B2_11, B5_11]) (par := []) (R := [[b5], [b3], M]) he11 (fun b hb => hsb2 b (fl_left' (P := []) b hb)) hfn11 (NP.init _ _) (fun x hx => hsb2 x (fl_right' (P := []) x hx))
    have hsn : ∀ x ∈ fl [B2_11, B5_11, [b5], [b3], M], x ∈ fl ([B2_11, B5_11] ++ ([] ++ [[b5], [b3], M])) := pick_sub [some 0, some 1, some 2, some 3, some 4] _ rfl
    have hst := hst0.res hsn
    replace hs_p0_0 := hs_p0_0.step hst
    replace hs_p1_1 := hs_p1_1.step hst
    replace hb3 := he11.box hb3 ((MS.outs (P := []) hpk2 1 rfl) _ (List.mem_singleton.2 rfl))
    replace hb5 := he11.box hb5 ((MS.outs (P := []) hpk2 0 rfl) _ (List.mem_singleton.2 rfl))
    replace hms : MS w11 [B2_11, B5_11, [b5], [b3], M] := (MS.call (P := []) (R := [[b5], [b3], M]) (res := [B2_11, B5_11]) (par := []) hpk2 he11 hmn11 hfn11 (NP.init _ _)).pick [some 0, some 1, some 2, some 3, some 4] _ rfl
    have hfr2 : FR w.heap.size [B2_11, B5_11, [b5], [b3]] := (FR.cons (fun b hb => Nat.le_trans hev.size (hfn11.at 0 rfl b hb)) (FR.cons (fun b hb => Nat.le_trans hev.size (hfn11.at 1 rfl b hb)) (FR.cons (hfr.at 0 rfl) (FR.cons (hfr.at 1 rfl) (FR.nil _)))))
    replace hev := hev.ext he11
    replace hfr := hfr2
    clear hfr2
    clear hpk hsb hsb0 hpk2 hsb2 hst0 hsn hst
    have hpk : MS w11 [B5_11, [b5], [b3], M] := hms.pick [some 1, some 2, some 3, some 4] _ rfl
    have hsu : ∀ x ∈ fl [B5_11, [b5], [b3], M], x ∈ fl [B2_11, B5_11, [b5], [b3], M] := pick_sub [some 1, some 2, some 3, some 4] _ rfl
    replace hs_p0_0 := hs_p0_0.sub hsu
    replace hs_p1_1 := hs_p1_1.sub hsu
    replace hf11_1 := hf11_1.ro (plain_int _) (pick_out hms 0 rfl [some 1, some 2, some 3, some 4] [B5_11, [b5], [b3], M] rfl rfl)
    replace hms := hpk
    replace hfr : FR w.heap.size [B5_11, [b5], [b3]] := hfr.pick [some 1, some 2, some 3] _ rfl
    clear hpk hsu
    have hpk : MS w11 [[b5], [b3], M] := hms.pick [some 1, some 2, some 3] _ rfl
    have hsu : ∀ x ∈ fl [[b5], [b3], M], x ∈ fl [B5_11, [b5], [b3], M] := pick_sub [some 1, some 2, some 3] _ rfl
    replace hs_p0_0 := hs_p0_0.sub hsu
    replace hs_p1_1 := hs_p1_1.sub hsu
    replace hf11_1 := hf11_1.sub hsu
    replace hf11_2 := hf11_2.ro (plain_int _) (pick_out hms 0 rfl [some 1, some 2, some 3] [[b5], [b3], M] rfl rfl)
    replace hms := hpk
    replace hfr : FR w.heap.size [[b5], [b3]] := hfr.pick [some 1, some 2] _ rfl
    clear hpk hsu
    refine x_field (xv := .agg #[.slice a0_11 (x10.1).length c0_11, .slice a3_11 (x10.2.1).length c3_11, .int .i64 x10.2.2.1, .int .i64 x10.2.2.2]) (.int .i64 x10.2.2.2) rfl rfl rfl (fun _ _ => by kernel_rfl) ?_
    refine x_pure 2 [(4, .int .i64 x10.2.2.2), (5, .int .i64 0)] _ _ _ (by kernel_rfl) ?_
    refine x_end rfl ?_
    refine k_then ?_
    refine c_norm [(4, .int .i64 x10.2.2.2), (5, .int .i64 0)] ⟨rfl, rfl, trivial⟩ (fun J => ?_)
    refine c_ret ?_
    refine r_ret (r_vals [.int .i64 x10.2.2.2, .int .i64 0] ⟨rfl, rfl, trivial⟩ ?_)
    have hx := some_inj h
    subst hx
    have hmr : MS w11 [M] := hms.pick [some 2] _ rfl
    have hsu : ∀ x ∈ fl [M], x ∈ fl [[b5], [b3], M] := pick_sub [some 2] _ rfl
    exact ⟨rfl, hev⟩
end Go.Proofs.Ytmjobkpgnhbcbaa
