/- Walks, printed by program: each function returns what the partial function of the same name returns. Conditions: those of each theorem. -/
import Derived.Test.YtgdaanhiagoonaaGT
import Derived.Test.YtgdaanhiagoonaaGgen
import Derived.Test.YtgdaanhiagoonaaGr11
set_option linter.unusedVariables false
set_option linter.unusedSimpArgs false
set_option maxRecDepth 4000
namespace Go.Proofs.Ytgdaanhiagoonaa
open Go Go.V Go.Proofs
def law13_chain_J17 (d8_l6 : List Int) (t11__s11_l6 : Int) (x15 : Int × Int) (e2_j17_1 : Int) (t41__s41_j17 : Bool) : Option (Step (Int × (List Int) × Int) (Int × (List Int))) :=
(if t41__s41_j17 = true then
(if d8_l6.length + ([x15.1]).length ≤ 4294967296 then
some (.next (e2_j17_1, (d8_l6 ++ [x15.1]), IntKind.i64.wrap (t11__s11_l6 + 1)))
else none)
else
some (.next (e2_j17_1, d8_l6, IntKind.i64.wrap (t11__s11_l6 + 1))))

def law13_chain_L6 (p0_0 : List Int) (p1_0 : List (Int × Int × Int × Int)) (p1_1 : Int) (s : Int × (List Int) × Int) : Option (Step (Int × (List Int) × Int) (Int × (List Int))) :=
match s with
| (e2_l6_1, d8_l6, t11__s11_l6) =>
(if (decide (t11__s11_l6 < ((p1_0).length : Int))) = true then
((gen_Maker_Next p0_0 e2_l6_1 2).bind fun x13 =>
(if (x13.1 == 0) = true then
some (.next (x13.2, d8_l6, IntKind.i64.wrap (t11__s11_l6 + 1)))
else
((gen_Maker_Next p0_0 x13.2 ((p1_0).length : Int)).bind fun x15 =>
(if (((d8_l6).length : Int) == 0) = true then
law13_chain_J17 d8_l6 t11__s11_l6 x15 x15.2 true
else
((idx d8_l6 (IntKind.i64.wrap (((d8_l6).length : Int) - 1))).bind fun x18 =>
((r11_Kind p1_0 p1_1 x18 x15.1).bind fun x20 =>
(if (decide (x20 > 0)) = true then
law13_chain_J17 d8_l6 t11__s11_l6 x15 x15.2 true
else
((gen_Maker_Next p0_0 x15.2 20).bind fun x22 =>
law13_chain_J17 d8_l6 t11__s11_l6 x15 x22.2 (x22.1 == 0)))))))))
else
some (.done (e2_l6_1, d8_l6)))

def law13_chain (p0_0 : List Int) (p0_1 : Int) (p1_0 : List (Int × Int × Int × Int)) (p1_1 : Int) : Option ((List Int) × Int) :=
((loop (law13_chain_L6 p0_0 p1_0 p1_1) (p0_1, ([] : List Int), 0)).bind fun d => match d with
| (e2_x6_1, d8_x6) => some (d8_x6, e2_x6_1))

theorem law13_chain_w (b_p0 : Nat) (a_p0_0 : Option Addr) (c_p0_0 : Nat) (p0_0 : List Int) (p0_1 : Int) (a_p1_0 : Option Addr) (c_p1_0 : Nat) (p1_0 : List (Int × Int × Int × Int)) (p1_1 : Int) (r : (List Int) × Int) (w : World) (M : List Nat) (hms : MS w [[b_p0], M]) (hs_p0_0 : SlR (eInt .i64) w (fl [[b_p0], M]) a_p0_0 c_p0_0 p0_0) (hb_p0 : w.heap[b_p0]? = some (.cells #[.slice a_p0_0 (p0_0).length c_p0_0, .int .i64 p0_1] 62 (0, 0))) (hs_p1_0 : SlR (eProd (eInt .i64) (eProd (eInt .i64) (eProd (eInt .i64) (eInt .i64)))) w (fl [[b_p0], M]) a_p1_0 c_p1_0 p1_0) (h : law13_chain p0_0 p0_1 p1_0 p1_1 = some r) : CallVC Try.prog 16 [.pointer (some ⟨b_p0, 0, none⟩), .agg #[.slice a_p1_0 (p1_0).length c_p1_0, .int .i64 p1_1]] w fun v w' => ∃ (a0' : Option Addr), ∃ (c0' : Nat), v = .slice a0' (r.1).length c0' ∧ Ev [b_p0] w w' ∧ w'.heap[b_p0]? = some (.cells #[.slice a_p0_0 (p0_0).length c_p0_0, .int .i64 r.2] 62 (0, 0)) ∧ MS w' [blk a0', [b_p0], M] ∧ FR w.heap.size [blk a0'] ∧ OwnS (eInt .i64) 3 w' (fl [blk a0', [b_p0], M]) a0' c0' r.1 := by
  refine calls_vc hmx Try.func16 (by kernel_rfl) rfl (rs := [.tmp 4]) rfl (by kernel_rfl) (args := [.pointer (some ⟨b_p0, 0, none⟩), .agg #[.slice a_p1_0 (p1_0).length c_p1_0, .int .i64 p1_1]]) rfl ?_
  have hev : Ev [b_p0] w w := Ev.refl _ _
  have hfr : FR w.heap.size [] := FR.nil _
  refine c_seq (c_plain ?_)
  refine x_box (xv := .agg #[.slice a_p1_0 (p1_0).length c_p1_0, .int .i64 p1_1]) rfl rfl rfl (fun b4 w4 hq4 hb4 he4 hz4 => ?_)
  replace hb4 : w4.heap[b4]? = some (.cells #[.slice a_p1_0 (p1_0).length c_p1_0, .int .i64 p1_1] 24 (0, 0)) := hb4
  refine ⟨.inl rfl, ?_⟩
  have hst := Stp.box (ls := [[b_p0], M]) he4 hq4
  replace hs_p0_0 := hs_p0_0.step hst
  replace hb_p0 := he4.box hb_p0 nn
  replace hs_p1_0 := hs_p1_0.step hst
  replace hms := hms.box he4 hq4 hb4
  replace hfr := hfr.box hev.size hq4
  replace hev := hev.ext he4
  refine x_pure 1 [(4, .slice none 0 0)] _ _ _ (by kernel_rfl) ?_
  refine x_end rfl (k_then ?_)
  refine c_seq (c_plain ?_)
  refine x_pure 1 [(5, .slice none 0 0)] _ _ _ (by kernel_rfl) ?_
  refine x_end rfl (k_then ?_)
  refine c_seq ?_
  refine c_seq (c_plain ?_)
  refine x_fieldAddr (xv := .pointer (some ⟨b4, 0, none⟩)) (.pointer (some ⟨b4, 0, none⟩)) rfl rfl rfl (reads_field tfld24_0 _ _) ?_
  refine x_load (xv := .pointer (some ⟨b4, 0, none⟩)) (.slice a_p1_0 (p1_0).length c_p1_0) rfl rfl rfl (reads_box tcell22 hb4 nn 0 _ rfl) ?_
  refine x_len (vs := [.slice a_p1_0 (p1_0).length c_p1_0]) (.int .i64 ((p1_0).length : Int)) rfl rfl rfl (reads_len tsl22 _ _ _ _ _) ?_
  refine x_pure 1 [(11, .int .i64 0)] _ _ _ (by kernel_rfl) ?_
  refine x_end rfl (k_then ?_)
  refine c_block ?_
  have hst := Stp.push (ls := [[b4], [b_p0], M]) (l := blk none) (Ev.refl [] w4) (fun _ h => by cases h) (fun _ h => by cases h)
  replace hs_p0_0 := hs_p0_0.step hst
  replace hb_p0 := (Ev.refl [] _).box hb_p0 nn
  replace hs_p1_0 := hs_p1_0.step hst
  replace hb4 := (Ev.refl [] _).box hb4 nn
  replace hms := hms.push (l := blk none) (Ev.refl [] _) (fun _ h => by cases h)
  replace hfr := hfr.push (l := blk none) (fun _ h => by cases h)
  have ho7 := OwnS.nil (eInt .i64) 3 w4 (fl [blk none, [b4], [b_p0], M])
  have hpk : MS w4 [[b4], blk none, [b_p0], M] := hms.pick [some 1, some 0, some 2, some 3] _ rfl
  have hsu : ∀ x ∈ fl [[b4], blk none, [b_p0], M], x ∈ fl [blk none, [b4], [b_p0], M] := pick_sub [some 1, some 0, some 2, some 3] _ rfl
  replace hs_p0_0 := hs_p0_0.sub hsu
  replace hs_p1_0 := hs_p1_0.sub hsu
  replace ho7 := ho7.sub hsu
  replace hms := hpk
  replace hfr : FR w.heap.size [[b4], blk none] := hfr.pick [some 1, some 0] _ rfl
  clear hpk hsu
  obtain ⟨d6, hd6, h6⟩ := bind_some h
  obtain ⟨m6, hd6⟩ := loop_some hd6
  refine c_loop (loop_rule hmx (σ := Nat × Int × (List Int) × Int × Option Addr × Nat) (fun s => match s with | (_, e2_l6_1, d8_l6, t11__s11_l6, a8_l6, c8_l6) => [(0, .pointer (some ⟨b_p0, 0, none⟩)), (3, .pointer (some ⟨b4, 0, none⟩)), (5, .slice a8_l6 (d8_l6).length c8_l6), (10, .int .i64 ((p1_0).length : Int)), (11, .int .i64 t11__s11_l6)]) (fun s w' => match s with | (m, e2_l6_1, d8_l6, t11__s11_l6, a8_l6, c8_l6) => loopN (law13_chain_L6 p0_0 p1_0 p1_1) m (e2_l6_1, d8_l6, t11__s11_l6) = some d6 ∧ Ev [b_p0] w w' ∧ MS w' [[b4], blk a8_l6, [b_p0], M] ∧ FR w.heap.size [[b4], blk a8_l6] ∧ SlR (eInt .i64) w' (fl [[b4], blk a8_l6, [b_p0], M]) a_p0_0 c_p0_0 p0_0 ∧ w'.heap[b_p0]? = some (.cells #[.slice a_p0_0 (p0_0).length c_p0_0, .int .i64 e2_l6_1] 62 (0, 0)) ∧ SlR (eProd (eInt .i64) (eProd (eInt .i64) (eProd (eInt .i64) (eInt .i64)))) w' (fl [[b4], blk a8_l6, [b_p0], M]) a_p1_0 c_p1_0 p1_0 ∧ w'.heap[b4]? = some (.cells #[.slice a_p1_0 (p1_0).length c_p1_0, .int .i64 p1_1] 24 (0, 0)) ∧ OwnS (eInt .i64) 3 w' (fl [[b4], blk a8_l6, [b_p0], M]) a8_l6 c8_l6 d8_l6) (fun s => s.1) (m6, p0_1, ([] : List Int), 0, none, 0) ⟨rfl, rfl, rfl, rfl, rfl, trivial⟩ ⟨hd6, hev, hms, hfr, hs_p0_0, hb_p0, hs_p1_0, hb4, ho7⟩ ?_)
  rintro ⟨m6, e2_l6_1, d8_l6, t11__s11_l6, a8_l6, c8_l6⟩ J wl6 ⟨hn6, hev, hms, hfr, hs_p0_0, hb_p0, hs_p1_0, hb4, hj8_l6⟩
  rcases m6 with _ | m6
  · exact (loopN_zero hn6).elim
  obtain ⟨t6, h, hn6⟩ := bind_some hn6
  refine c_seq (c_plain ?_)
  refine x_pure 1 [(12, .bool (decide (t11__s11_l6 < ((p1_0).length : Int))))] _ _ _ (by kernel_rfl) ?_
  refine x_end rfl (k_then ?_)
  refine c_norm [(0, .pointer (some ⟨b_p0, 0, none⟩)), (3, .pointer (some ⟨b4, 0, none⟩)), (5, .slice a8_l6 (d8_l6).length c8_l6), (10, .int .i64 ((p1_0).length : Int)), (11, .int .i64 t11__s11_l6), (12, .bool (decide (t11__s11_l6 < ((p1_0).length : Int))))] ⟨rfl, rfl, rfl, rfl, rfl, rfl, trivial⟩ (fun J => ?_)
  refine c_seq ?_
  refine c_cond (decide (t11__s11_l6 < ((p1_0).length : Int))) rfl (fun hb => ?_) (fun hb => ?_)
  · replace h := ite_t hb h
    refine c_skip ?_
    refine k_then ?_
    refine c_seq ?_
    refine c_block ?_
    refine c_seq (c_plain ?_)
    refine x_pure 2 [(13, .int .i64 t11__s11_l6), (6, .int .i64 t11__s11_l6)] _ _ _ (by kernel_rfl) ?_
    refine x_end rfl (k_then ?_)
    refine c_seq ?_
    refine c_seq (c_plain ?_)
    refine x_pure 1 [(14, .pointer (some ⟨b_p0, 0, none⟩))] _ _ _ (by kernel_rfl) ?_
    obtain ⟨x13, hx, h⟩ := bind_some h
    have hpk : MS wl6 ([[b_p0]] ++ [[b4], blk a8_l6, M]) := hms.pick [some 2, some 0, some 1, some 3] _ rfl
    have hsb0 : ∀ x ∈ fl ([[b_p0]] ++ [[b4], blk a8_l6, M]), x ∈ fl [[b4], blk a8_l6, [b_p0], M] := pick_sub [some 2, some 0, some 1, some 3] _ rfl
    have hsb : ∀ x ∈ fl ([[b_p0]] ++ [(fl [[b4], blk a8_l6, M])]), x ∈ fl [[b4], blk a8_l6, [b_p0], M] := fun x hx => hsb0 x (fl_unfold x hx)
    have hcall := gen_Maker_Next_w b_p0 a_p0_0 c_p0_0 p0_0 e2_l6_1 2 _ wl6 (fl [[b4], blk a8_l6, M]) (hpk.fold (P := [[b_p0]])) (hs_p0_0.sub hsb) hb_p0 hx
    refine x_call 32 #[] #[] [.pointer (some ⟨b_p0, 0, none⟩), .int .i64 2] _ rfl rfl rfl rfl hcall ?_
    rintro v w14 ⟨rfl, he14, hp14_0⟩
    clear hcall hx
    refine ⟨.inl rfl, ?_⟩
    have hpk2 : MS wl6 ([[b_p0]] ++ [[b4], blk a8_l6, M]) := hms.pick [some 2, some 0, some 1, some 3] _ rfl
    have hsb2 : ∀ x ∈ fl ([[b_p0]] ++ [[b4], blk a8_l6, M]), x ∈ fl [[b4], blk a8_l6, [b_p0], M] := pick_sub [some 2, some 0, some 1, some 3] _ rfl
    have hst0 := Stp.call (LS := [[b4], blk a8_l6, [b_p0], M]) (res := []) (par := [[b_p0]]) (R := [[b4], blk a8_l6, M]) he14 (fun b hb => hsb2 b (fl_left' (P := [[b_p0]]) b hb)) (FR.nil _) (NP.init _ _) (fun x hx => hsb2 x (fl_right' (P := [[b_p0]]) x hx))
    have hsn : ∀ x ∈ fl [[b4], blk a8_l6, [b_p0], M], x ∈ fl ([] ++ ([[b_p0]] ++ [[b4], blk a8_l6, M])) := pick_sub [some 1, some 2, some 0, some 3] _ rfl
    have hst := hst0.res hsn
    replace hs_p0_0 := hs_p0_0.step hst
    replace hb4 := he14.box hb4 ((MS.outs (P := [[b_p0]]) hpk2 0 rfl) _ (List.mem_singleton.2 rfl))
    replace hs_p1_0 := hs_p1_0.step hst
    replace hj8_l6 := hj8_l6.step hst he14 (MS.outs (P := [[b_p0]]) hpk2 1 rfl)
    replace hms := hms.ev he14
    replace hev := hev.then he14 (fun b hb => .inl (by simpa using hb))
    replace hb_p0 := hp14_0
    clear hpk hsb hsb0 hpk2 hsb2 hst0 hsn hst
    refine x_pure 1 [(16, .bool (x13.1 == 0))] _ _ _ (by kernel_rfl) ?_
    refine x_end rfl (k_then ?_)
    refine c_cond (x13.1 == 0) rfl (fun hb => ?_) (fun hb => ?_)
    · replace h := ite_t hb h
      refine c_exit ?_
      refine k_then_exit ?_
      refine k_block_in ?_
      refine k_then ?_
      refine c_plain ?_
      refine x_pure 2 [(47, .int .i64 (IntKind.i64.wrap (t11__s11_l6 + 1))), (11, .int .i64 (IntKind.i64.wrap (t11__s11_l6 + 1)))] _ _ _ (by kernel_rfl) ?_
      refine x_end rfl ?_
      have hx := some_inj h
      subst hx
      exact k_then ⟨(m6, x13.2, d8_l6, IntKind.i64.wrap (t11__s11_l6 + 1), a8_l6, c8_l6), ⟨rfl, rfl, rfl, rfl, rfl, trivial⟩, ⟨hn6, hev, hms, hfr, hs_p0_0, hb_p0, hs_p1_0, hb4, hj8_l6⟩, Nat.lt_succ_self _⟩
    replace h := ite_f hb h
    refine c_skip ?_
    refine k_then ?_
    refine c_seq (c_plain ?_)
    refine x_pure 1 [(17, .pointer (some ⟨b_p0, 0, none⟩))] _ _ _ (by kernel_rfl) ?_
    refine x_fieldAddr (xv := .pointer (some ⟨b4, 0, none⟩)) (.pointer (some ⟨b4, 0, none⟩)) rfl rfl rfl (reads_field tfld24_0 _ _) ?_
    refine x_load (xv := .pointer (some ⟨b4, 0, none⟩)) (.slice a_p1_0 (p1_0).length c_p1_0) rfl rfl rfl (reads_box tcell22 hb4 nn 0 _ rfl) ?_
    refine x_len (vs := [.slice a_p1_0 (p1_0).length c_p1_0]) (.int .i64 ((p1_0).length : Int)) rfl rfl rfl (reads_len tsl22 _ _ _ _ _) ?_
    obtain ⟨x15, hx, h⟩ := bind_some h
    have hpk : MS w14 ([[b_p0]] ++ [[b4], blk a8_l6, M]) := hms.pick [some 2, some 0, some 1, some 3] _ rfl
    have hsb0 : ∀ x ∈ fl ([[b_p0]] ++ [[b4], blk a8_l6, M]), x ∈ fl [[b4], blk a8_l6, [b_p0], M] := pick_sub [some 2, some 0, some 1, some 3] _ rfl
    have hsb : ∀ x ∈ fl ([[b_p0]] ++ [(fl [[b4], blk a8_l6, M])]), x ∈ fl [[b4], blk a8_l6, [b_p0], M] := fun x hx => hsb0 x (fl_unfold x hx)
    have hcall := gen_Maker_Next_w b_p0 a_p0_0 c_p0_0 p0_0 x13.2 ((p1_0).length : Int) _ w14 (fl [[b4], blk a8_l6, M]) (hpk.fold (P := [[b_p0]])) (hs_p0_0.sub hsb) hb_p0 hx
    refine x_call 32 #[] #[] [.pointer (some ⟨b_p0, 0, none⟩), .int .i64 ((p1_0).length : Int)] _ rfl rfl rfl rfl hcall ?_
    rintro v w16 ⟨rfl, he16, hp16_0⟩
    clear hcall hx
    refine ⟨.inl rfl, ?_⟩
    have hpk2 : MS w14 ([[b_p0]] ++ [[b4], blk a8_l6, M]) := hms.pick [some 2, some 0, some 1, some 3] _ rfl
    have hsb2 : ∀ x ∈ fl ([[b_p0]] ++ [[b4], blk a8_l6, M]), x ∈ fl [[b4], blk a8_l6, [b_p0], M] := pick_sub [some 2, some 0, some 1, some 3] _ rfl
    have hst0 := Stp.call (LS := [[b4], blk a8_l6, [b_p0], M]) (res := []) (par := [[b_p0]]) (R := [[b4], blk a8_l6, M]) he16 (fun b hb => hsb2 b (fl_left' (P := [[b_p0]]) b hb)) (FR.nil _) (NP.init _ _) (fun x hx => hsb2 x (fl_right' (P := [[b_p0]]) x hx))
    have hsn : ∀ x ∈ fl [[b4], blk a8_l6, [b_p0], M], x ∈ fl ([] ++ ([[b_p0]] ++ [[b4], blk a8_l6, M])) := pick_sub [some 1, some 2, some 0, some 3] _ rfl
    have hst := hst0.res hsn
    replace hs_p0_0 := hs_p0_0.step hst
    replace hb4 := he16.box hb4 ((MS.outs (P := [[b_p0]]) hpk2 0 rfl) _ (List.mem_singleton.2 rfl))
    replace hs_p1_0 := hs_p1_0.step hst
    replace hj8_l6 := hj8_l6.step hst he16 (MS.outs (P := [[b_p0]]) hpk2 1 rfl)
    replace hms := hms.ev he16
    replace hev := hev.then he16 (fun b hb => .inl (by simpa using hb))
    replace hb_p0 := hp16_0
    clear hpk hsb hsb0 hpk2 hsb2 hst0 hsn hst
    refine x_pure 1 [(7, .int .i64 x15.1)] _ _ _ (by kernel_rfl) ?_
    refine x_end rfl (k_then ?_)
    refine c_seq ?_
    refine c_join (σ := Int × Bool × Option Addr) (fun s => match s with | (e2_j17_1, t41__s41_j17, a8_j17) => [(0, .pointer (some ⟨b_p0, 0, none⟩)), (3, .pointer (some ⟨b4, 0, none⟩)), (5, .slice a8_j17 (d8_l6).length c8_l6), (6, .int .i64 t11__s11_l6), (7, .int .i64 x15.1), (10, .int .i64 ((p1_0).length : Int)), (11, .int .i64 t11__s11_l6), (41, .bool t41__s41_j17)]) (fun s w' => match s with | (e2_j17_1, t41__s41_j17, a8_j17) => law13_chain_J17 d8_l6 t11__s11_l6 x15 e2_j17_1 t41__s41_j17 = some t6 ∧ Ev [b_p0] w w' ∧ MS w' [[b4], blk a8_j17, [b_p0], M] ∧ FR w.heap.size [[b4], blk a8_j17] ∧ SlR (eInt .i64) w' (fl [[b4], blk a8_j17, [b_p0], M]) a_p0_0 c_p0_0 p0_0 ∧ w'.heap[b_p0]? = some (.cells #[.slice a_p0_0 (p0_0).length c_p0_0, .int .i64 e2_j17_1] 62 (0, 0)) ∧ SlR (eProd (eInt .i64) (eProd (eInt .i64) (eProd (eInt .i64) (eInt .i64)))) w' (fl [[b4], blk a8_j17, [b_p0], M]) a_p1_0 c_p1_0 p1_0 ∧ w'.heap[b4]? = some (.cells #[.slice a_p1_0 (p1_0).length c_p1_0, .int .i64 p1_1] 24 (0, 0)) ∧ OwnS (eInt .i64) 3 w' (fl [[b4], blk a8_j17, [b_p0], M]) a8_j17 c8_l6 d8_l6) ?_ ?_
    · refine c_drawn [b_p0] [(0, false), (1, false), (2, false), (3, false), (4, false), (5, false), (6, false), (7, false), (8, false), (9, false), (10, false), (11, false), (12, false), (13, false), (14, false), (15, true), (16, false), (17, false), (18, false), (19, false)] _ (by kernel_rfl) rfl ?_
      have hst := Stp.ext (ls := [[b4], blk a8_l6, [b_p0], M]) (Ev.drew w16)
      replace hb_p0 := (Ev.drew w16).box hb_p0 nn
      replace hs_p0_0 := hs_p0_0.step hst
      replace hb4 := (Ev.drew w16).box hb4 nn
      replace hs_p1_0 := hs_p1_0.step hst
      replace hj8_l6 := hj8_l6.step hst (Ev.drew w16) nn2
      replace hms := hms.ev (Ev.drew w16)
      replace hev := hev.ext (Ev.drew w16)
      refine x_pure 1 [(22, .slice a8_l6 (d8_l6).length c8_l6)] _ _ _ (by kernel_rfl) ?_
      refine x_len (vs := [.slice a8_l6 (d8_l6).length c8_l6]) (.int .i64 ((d8_l6).length : Int)) rfl rfl rfl (reads_len tsl27 _ _ _ _ _) ?_
      refine x_pure 2 [(24, .bool (((d8_l6).length : Int) == 0)), (25, .bool (((d8_l6).length : Int) == 0))] _ _ _ (by kernel_rfl) ?_
      refine x_split 25 (((d8_l6).length : Int) == 0) rfl (fun hb => ?_) (fun hb => ?_)
      · replace h := ite_t hb h
        refine x_pure 16 [(26, undef), (27, undef), (28, undef), (29, undef), (30, undef), (31, undef), (32, undef), (33, undef), (34, undef), (35, undef), (36, .bool true), (37, .bool true), (38, undef), (39, undef), (40, undef), (41, .bool true)] _ _ _ (by kernel_rfl) ?_
        refine x_end rfl ?_
        exact k_then ⟨(x15.2, true, a8_l6), ⟨rfl, rfl, rfl, rfl, rfl, rfl, rfl, rfl, trivial⟩, h, hev, hms, hfr, hs_p0_0, hb_p0, hs_p1_0, hb4, hj8_l6⟩
      replace h := ite_f hb h
      refine x_load (xv := .pointer (some ⟨b4, 0, none⟩)) (.agg #[.slice a_p1_0 (p1_0).length c_p1_0, .int .i64 p1_1]) rfl rfl rfl (reads_boxagg 0 [.slice a_p1_0 (p1_0).length c_p1_0, .int .i64 p1_1] tagg24 hb4 ((hms.apart 0 2 rfl rfl rfl) _ (List.mem_singleton.2 rfl)) rfl) ?_
      refine x_pure 2 [(27, .slice a8_l6 (d8_l6).length c8_l6), (28, .slice a8_l6 (d8_l6).length c8_l6)] _ _ _ (by kernel_rfl) ?_
      refine x_len (vs := [.slice a8_l6 (d8_l6).length c8_l6]) (.int .i64 ((d8_l6).length : Int)) rfl rfl rfl (reads_len tsl27 _ _ _ _ _) ?_
      refine x_pure 1 [(30, .int .i64 (IntKind.i64.wrap (((d8_l6).length : Int) - 1)))] _ _ _ (by kernel_rfl) ?_
      obtain ⟨x18, hx18, h⟩ := bind_some h
      obtain ⟨g18, cs18, ha, hr18, hc18, hR⟩ := own_index (Mo := [b_p0]) tsl27 hj8_l6 hx18
      subst ha
      obtain rfl := hR
      refine x_indexAddr (xv := .slice (some ⟨g18, 0, none⟩) (d8_l6).length c8_l6) (yv := .int .i64 (IntKind.i64.wrap (((d8_l6).length : Int) - 1))) (.pointer (some ⟨g18, (Int.toNat (IntKind.i64.wrap (((d8_l6).length : Int) - 1))) * (eInt .i64).n, none⟩)) rfl rfl rfl rfl hr18 ?_
      refine x_load (xv := .pointer (some ⟨g18, (Int.toNat (IntKind.i64.wrap (((d8_l6).length : Int) - 1))) * (eInt .i64).n, none⟩)) (.int .i64 x18) rfl rfl rfl (reads_cell0 tcell3 (CellsAt.away hc18 ((hms.apart 1 2 rfl rfl rfl) _ (List.mem_singleton.2 rfl))) (fun b hb => hb)) ?_
      refine x_pure 1 [(33, .int .i64 x15.1)] _ _ _ (by kernel_rfl) ?_
      obtain ⟨x20, hx, h⟩ := bind_some h
      have hpk : MS (w16).drew ([] ++ [[b4], blk (some ⟨g18, 0, none⟩), [b_p0], M]) := hms.pick [some 0, some 1, some 2, some 3] _ rfl
      have hsb0 : ∀ x ∈ fl ([] ++ [[b4], blk (some ⟨g18, 0, none⟩), [b_p0], M]), x ∈ fl [[b4], blk (some ⟨g18, 0, none⟩), [b_p0], M] := pick_sub [some 0, some 1, some 2, some 3] _ rfl
      have hsb : ∀ x ∈ fl ([] ++ [(fl [[b4], blk (some ⟨g18, 0, none⟩), [b_p0], M])]), x ∈ fl [[b4], blk (some ⟨g18, 0, none⟩), [b_p0], M] := fun x hx => hsb0 x (fl_unfold x hx)
      have hcall := r11_Kind_w a_p1_0 c_p1_0 p1_0 p1_1 x18 x15.1 _ (w16).drew (fl [[b4], blk (some ⟨g18, 0, none⟩), [b_p0], M]) (MS.fold (P := []) hpk) (hs_p1_0.sub hsb) hx
      refine x_call 26 #[] #[] [.agg #[.slice a_p1_0 (p1_0).length c_p1_0, .int .i64 p1_1], .int .i64 x18, .int .i64 x15.1] _ rfl rfl rfl rfl hcall ?_
      rintro v w21 ⟨rfl, he21⟩
      clear hcall hx
      refine ⟨.inr (he21.nil), ?_⟩
      have hst := Stp.ext (ls := [[b4], blk (some ⟨g18, 0, none⟩), [b_p0], M]) he21
      replace hb_p0 := he21.box hb_p0 nn
      replace hs_p0_0 := hs_p0_0.step hst
      replace hb4 := he21.box hb4 nn
      replace hs_p1_0 := hs_p1_0.step hst
      replace hj8_l6 := hj8_l6.step hst he21 nn2
      replace hms := hms.ev he21
      replace hev := hev.ext he21
      clear hpk hsb hsb0
      refine x_pure 3 [(35, .bool (decide (x20 > 0))), (36, .bool (decide (x20 > 0))), (37, .bool (decide (x20 > 0)))] _ _ _ (by kernel_rfl) ?_
      refine x_split 37 (decide (x20 > 0)) rfl (fun hb => ?_) (fun hb => ?_)
      · replace h := ite_t hb h
        refine x_pure 4 [(38, undef), (39, undef), (40, undef), (41, .bool true)] _ _ _ (by kernel_rfl) ?_
        refine x_end rfl ?_
        exact k_then ⟨(x15.2, true, (some ⟨g18, 0, none⟩)), ⟨rfl, rfl, rfl, rfl, rfl, rfl, rfl, rfl, trivial⟩, h, hev, hms, hfr, hs_p0_0, hb_p0, hs_p1_0, hb4, hj8_l6⟩
      replace h := ite_f hb h
      refine x_pure 1 [(38, .pointer (some ⟨b_p0, 0, none⟩))] _ _ _ (by kernel_rfl) ?_
      obtain ⟨x22, hx, h⟩ := bind_some h
      have hpk : MS w21 ([[b_p0]] ++ [[b4], blk (some ⟨g18, 0, none⟩), M]) := hms.pick [some 2, some 0, some 1, some 3] _ rfl
      have hsb0 : ∀ x ∈ fl ([[b_p0]] ++ [[b4], blk (some ⟨g18, 0, none⟩), M]), x ∈ fl [[b4], blk (some ⟨g18, 0, none⟩), [b_p0], M] := pick_sub [some 2, some 0, some 1, some 3] _ rfl
      have hsb : ∀ x ∈ fl ([[b_p0]] ++ [(fl [[b4], blk (some ⟨g18, 0, none⟩), M])]), x ∈ fl [[b4], blk (some ⟨g18, 0, none⟩), [b_p0], M] := fun x hx => hsb0 x (fl_unfold x hx)
      have hcall := gen_Maker_Next_w b_p0 a_p0_0 c_p0_0 p0_0 x15.2 20 _ w21 (fl [[b4], blk (some ⟨g18, 0, none⟩), M]) (hpk.fold (P := [[b_p0]])) (hs_p0_0.sub hsb) hb_p0 hx
      refine x_call 32 #[] #[] [.pointer (some ⟨b_p0, 0, none⟩), .int .i64 20] _ rfl rfl rfl rfl hcall ?_
      rintro v w23 ⟨rfl, he23, hp23_0⟩
      clear hcall hx
      refine ⟨.inr he23, ?_⟩
      have hpk2 : MS w21 ([[b_p0]] ++ [[b4], blk (some ⟨g18, 0, none⟩), M]) := hms.pick [some 2, some 0, some 1, some 3] _ rfl
      have hsb2 : ∀ x ∈ fl ([[b_p0]] ++ [[b4], blk (some ⟨g18, 0, none⟩), M]), x ∈ fl [[b4], blk (some ⟨g18, 0, none⟩), [b_p0], M] := pick_sub [some 2, some 0, some 1, some 3] _ rfl
      have hst0 := Stp.call (LS := [[b4], blk (some ⟨g18, 0, none⟩), [b_p0], M]) (res := []) (par := [[b_p0]]) (R := [[b4], blk (some ⟨g18, 0, none⟩), M]) he23 (fun b hb => hsb2 b (fl_left' (P := [[b_p0]]) b hb)) (FR.nil _) (NP.init _ _) (fun x hx => hsb2 x (fl_right' (P := [[b_p0]]) x hx))
      have hsn : ∀ x ∈ fl [[b4], blk (some ⟨g18, 0, none⟩), [b_p0], M], x ∈ fl ([] ++ ([[b_p0]] ++ [[b4], blk (some ⟨g18, 0, none⟩), M])) := pick_sub [some 1, some 2, some 0, some 3] _ rfl
      have hst := hst0.res hsn
      replace hs_p0_0 := hs_p0_0.step hst
      replace hb4 := he23.box hb4 ((MS.outs (P := [[b_p0]]) hpk2 0 rfl) _ (List.mem_singleton.2 rfl))
      replace hs_p1_0 := hs_p1_0.step hst
      replace hj8_l6 := hj8_l6.step hst he23 (MS.outs (P := [[b_p0]]) hpk2 1 rfl)
      replace hms := hms.ev he23
      replace hev := hev.then he23 (fun b hb => .inl (by simpa using hb))
      replace hb_p0 := hp23_0
      clear hpk hsb hsb0 hpk2 hsb2 hst0 hsn hst
      refine x_pure 2 [(40, .bool (x22.1 == 0)), (41, .bool (x22.1 == 0))] _ _ _ (by kernel_rfl) ?_
      refine x_end rfl ?_
      exact k_then ⟨(x22.2, x22.1 == 0, (some ⟨g18, 0, none⟩)), ⟨rfl, rfl, rfl, rfl, rfl, rfl, rfl, rfl, trivial⟩, h, hev, hms, hfr, hs_p0_0, hb_p0, hs_p1_0, hb4, hj8_l6⟩
    rintro ⟨e2_j17_1, t41__s41_j17, a8_j17⟩ J wj17 ⟨h, hev, hms, hfr, hs_p0_0, hb_p0, hs_p1_0, hb4, hj8_l6⟩
    refine c_cond t41__s41_j17 rfl (fun hb => ?_) (fun hb => ?_)
    · replace h := ite_t hb h
      refine c_plain ?_
      refine x_pure 2 [(42, .slice a8_j17 (d8_l6).length c8_l6), (43, .int .i64 x15.1)] _ _ _ (by kernel_rfl) ?_
      refine x_buildSlice (vs := [(0, .int .i64 x15.1)]) #[.int .i64 x15.1] 3 rfl rfl rfl (by kernel_rfl) (fun b24 w24 hq24 hb24 he24 hz24 => ?_)
      refine ⟨.inl rfl, ?_⟩
      have hms0 := hms
      have hst := Stp.ext (ls := [[b4], blk a8_j17, [b_p0], M]) he24
      replace hb_p0 := he24.box hb_p0 nn
      replace hs_p0_0 := hs_p0_0.step hst
      replace hb4 := he24.box hb4 nn
      replace hs_p1_0 := hs_p1_0.step hst
      replace hj8_l6 := hj8_l6.step hst he24 nn2
      replace hms := hms.ev he24
      replace hev := hev.ext he24
      have hs24 : SlR (eInt .i64) w24 (fl [[b4], blk a8_j17, [b_p0], M]) (some ⟨b24, 0, none⟩) 1 ([x15.1]) := ro_of_box hms0 hq24 hb24 rfl rfl (cells_at (cs := [.int .i64 x15.1]) (CellsOf.cons (c := [.int .i64 x15.1]) rfl CellsOf.nil))
      clear hb24 hms0
      have hg := guard_l h
      replace h := guard_r h
      obtain ⟨a26, c26, w26, hr26, he26, hn26, hm26, hw26⟩ := own_appendN tel27 27 hj8_l6 (mem_flat 1 rfl) hs24 hg
      refine x_builtin (vs := [.slice a8_j17 (d8_l6).length c8_l6, .slice (some ⟨b24, 0, none⟩) ([x15.1]).length 1]) _ w26 rfl rfl rfl rfl (run_value _ _ _ _ hr26) ?_
      refine ⟨.inl rfl, ?_⟩
      have hst : Stp (fl [[b4], blk a8_j17, [b_p0], M]) w24 (fl [[b4], blk a26, [b_p0], M]) w26 := Stp.upd 1 he26 rfl (fun b hb => (hn26 b hb).1)
      replace hb_p0 := he26.box hb_p0 (hms.apart 2 1 rfl rfl rfl _ (List.mem_singleton.2 rfl))
      replace hs_p0_0 := hs_p0_0.step hst
      replace hb4 := he26.box hb4 (hms.apart 0 1 rfl rfl rfl _ (List.mem_singleton.2 rfl))
      replace hs_p1_0 := hs_p1_0.step hst
      replace hs24 := hs24.step hst
      replace hms : MS w26 [[b4], blk a26, [b_p0], M] := hms.upd 1 he26 rfl hn26
      have hfr2 : FR w.heap.size [[b4], blk a26] := hfr.upd 1 rfl hev.size (fun b hb => (hn26 b hb).1)
      replace hev := hev.then he26 (fun b hb => .inr (hfr.at 1 rfl b hb))
      replace hfr := hfr2
      clear hfr2
      replace hj8_l6 := hw26 (fl [[b4], blk a26, [b_p0], M]) hst.new
      clear hw26
      refine x_pure 1 [(5, .slice a26 ((d8_l6 ++ [x15.1])).length c26)] _ _ _ (by kernel_rfl) ?_
      refine x_end rfl (k_then ?_)
      refine c_norm [(0, .pointer (some ⟨b_p0, 0, none⟩)), (3, .pointer (some ⟨b4, 0, none⟩)), (5, .slice a26 ((d8_l6 ++ [x15.1])).length c26), (6, .int .i64 t11__s11_l6), (10, .int .i64 ((p1_0).length : Int)), (11, .int .i64 t11__s11_l6)] ⟨rfl, rfl, rfl, rfl, rfl, rfl, trivial⟩ (fun J => ?_)
      refine c_plain ?_
      refine x_pure 1 [(46, .int .i64 t11__s11_l6)] _ _ _ (by kernel_rfl) ?_
      refine x_end rfl ?_
      refine k_block ?_
      refine k_then ?_
      refine c_plain ?_
      refine x_pure 2 [(47, .int .i64 (IntKind.i64.wrap (t11__s11_l6 + 1))), (11, .int .i64 (IntKind.i64.wrap (t11__s11_l6 + 1)))] _ _ _ (by kernel_rfl) ?_
      refine x_end rfl ?_
      have hx := some_inj h
      subst hx
      exact k_then ⟨(m6, e2_j17_1, (d8_l6 ++ [x15.1]), IntKind.i64.wrap (t11__s11_l6 + 1), a26, c26), ⟨rfl, rfl, rfl, rfl, rfl, trivial⟩, ⟨hn6, hev, hms, hfr, hs_p0_0, hb_p0, hs_p1_0, hb4, hj8_l6⟩, Nat.lt_succ_self _⟩
    replace h := ite_f hb h
    refine c_skip ?_
    refine k_then ?_
    refine c_norm [(0, .pointer (some ⟨b_p0, 0, none⟩)), (3, .pointer (some ⟨b4, 0, none⟩)), (5, .slice a8_j17 (d8_l6).length c8_l6), (6, .int .i64 t11__s11_l6), (10, .int .i64 ((p1_0).length : Int)), (11, .int .i64 t11__s11_l6)] ⟨rfl, rfl, rfl, rfl, rfl, rfl, trivial⟩ (fun J => ?_)
    refine c_plain ?_
    refine x_pure 1 [(46, .int .i64 t11__s11_l6)] _ _ _ (by kernel_rfl) ?_
    refine x_end rfl ?_
    refine k_block ?_
    refine k_then ?_
    refine c_plain ?_
    refine x_pure 2 [(47, .int .i64 (IntKind.i64.wrap (t11__s11_l6 + 1))), (11, .int .i64 (IntKind.i64.wrap (t11__s11_l6 + 1)))] _ _ _ (by kernel_rfl) ?_
    refine x_end rfl ?_
    have hx := some_inj h
    subst hx
    exact k_then ⟨(m6, e2_j17_1, d8_l6, IntKind.i64.wrap (t11__s11_l6 + 1), a8_j17, c8_l6), ⟨rfl, rfl, rfl, rfl, rfl, trivial⟩, ⟨hn6, hev, hms, hfr, hs_p0_0, hb_p0, hs_p1_0, hb4, hj8_l6⟩, Nat.lt_succ_self _⟩
  replace h := ite_f hb h
  refine c_exit ?_
  refine k_then_exit ?_
  have hx := some_inj h
  subst hx
  have hy := some_inj hn6
  subst hy
  replace h := h6
  refine k_then_exit ?_
  refine k_block_in ?_
  refine k_then ?_
  refine c_norm [(5, .slice a8_l6 (d8_l6).length c8_l6)] ⟨rfl, trivial⟩ (fun J => ?_)
  refine c_seq (c_plain ?_)
  refine x_pure 2 [(48, .slice a8_l6 (d8_l6).length c8_l6), (4, .slice a8_l6 (d8_l6).length c8_l6)] _ _ _ (by kernel_rfl) ?_
  refine x_end rfl (k_then ?_)
  refine c_ret ?_
  refine r_ret (r_vals [.slice a8_l6 (d8_l6).length c8_l6] ⟨rfl, trivial⟩ ?_)
  have hx := some_inj h
  subst hx
  have hmr : MS wl6 [blk a8_l6, [b_p0], M] := hms.pick [some 1, some 2, some 3] _ rfl
  have hsu : ∀ x ∈ fl [blk a8_l6, [b_p0], M], x ∈ fl [[b4], blk a8_l6, [b_p0], M] := pick_sub [some 1, some 2, some 3] _ rfl
  have hfe : FR w.heap.size [blk a8_l6] := hfr.pick [some 1] _ rfl
  exact ⟨a8_l6, c8_l6, rfl, hev, hb_p0, hmr, hfe, hj8_l6.sub hsu⟩
end Go.Proofs.Ytgdaanhiagoonaa
