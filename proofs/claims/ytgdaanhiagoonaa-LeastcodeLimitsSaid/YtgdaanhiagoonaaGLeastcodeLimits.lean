/- Walks, printed by program: each function returns what the partial function of the same name returns. Conditions: those of each theorem. -/
import Derived.Test.YtgdaanhiagoonaaGT
import Derived.Test.YtgdaanhiagoonaaGcode
import Derived.Test.YtgdaanhiagoonaaGlaw13sane
import Derived.Test.YtgdaanhiagoonaaGleastcode
set_option linter.unusedVariables false
set_option linter.unusedSimpArgs false
set_option maxRecDepth 4000
namespace Go.Proofs.Ytgdaanhiagoonaa
open Go Go.V Go.Proofs
def law13_LeastcodeLimits_L5 (s : (List (Int × Int × Int × Int)) × Int) : Option (Step ((List (Int × Int × Int × Int)) × Int) (List (Int × Int × Int × Int))) :=
match s with
| (d7_l5, b_s6_l5) =>
(if (decide (b_s6_l5 ≥ 0)) = true then
(if d7_l5.length + ([(0, b_s6_l5, 0, 100)] : List (Int × Int × Int × Int)).length ≤ 4294967296 then
some (.next ((d7_l5 ++ ([(0, b_s6_l5, 0, 100)] : List (Int × Int × Int × Int))), IntKind.i64.wrap (b_s6_l5 - 1)))
else none)
else
some (.done d7_l5))

def law13_LeastcodeLimits (p0 : Int) (p1 : Int) : Option Bool :=
((loop law13_LeastcodeLimits_L5 (([] : List (Int × Int × Int × Int)), IntKind.i64.wrap ((IntKind.i64.wrap (1 + (Int.tmod (IntKind.i64.wrap ((Int.tmod p0 32) + 32)) 32))) - 1))).bind fun d => match d with
| d7_x5 => ((leastcode_Least d7_x5 (Int.tmod (IntKind.i64.wrap ((Int.tmod p1 4) + 4)) 4)).bind fun x13 =>
((code_Count 12 0 (Int.tmod (IntKind.i64.wrap ((Int.tmod p1 4) + 4)) 4)).bind fun x19 =>
(if (x19.2 != 0) = true then
some false
else
(if (decide ((IntKind.i64.wrap (1 + (Int.tmod (IntKind.i64.wrap ((Int.tmod p0 32) + 32)) 32))) > x19.1)) = true then
((leastcode_Witness d7_x5 (Int.tmod (IntKind.i64.wrap ((Int.tmod p1 4) + 4)) 4)).bind fun x23 =>
(if (x13.2 == 15) = true then
(if (x23.2 == 15) = true then
((law13_sane).bind fun x26 =>
some x26)
else
some false)
else
some false))
else
(if (x13.2 == 0) = true then
(if (((x13.1.2).length : Int) == (IntKind.i64.wrap (1 + (Int.tmod (IntKind.i64.wrap ((Int.tmod p0 32) + 32)) 32)))) = true then
((idx x13.1.2 (IntKind.i64.wrap ((IntKind.i64.wrap (1 + (Int.tmod (IntKind.i64.wrap ((Int.tmod p0 32) + 32)) 32))) - 1))).bind fun x28 =>
(if (x28 == 0) = true then
(if ((Int.tmod (IntKind.i64.wrap ((Int.tmod p1 4) + 4)) 4) != 1) = true then
((law13_sane).bind fun x30 =>
some x30)
else
(if (x13.1.1 == (IntKind.i64.wrap ((IntKind.i64.wrap (1 + (Int.tmod (IntKind.i64.wrap ((Int.tmod p0 32) + 32)) 32))) - 1))) = true then
((law13_sane).bind fun x32 =>
some x32)
else
some false))
else
some false))
else
some false)
else
some false))))))

theorem law13_LeastcodeLimits_w (p0 : Int) (p1 : Int) (r : Bool) (w : World) (h : law13_LeastcodeLimits p0 p1 = some r) : CallVC Try.prog 10 [.int .i64 p0, .int .i64 p1] w fun v w' => v = .bool r ∧ Ev [] w w' := by
  refine calls_vc hmx Try.func10 (by kernel_rfl) rfl (rs := [.tmp 4]) rfl (by kernel_rfl) (args := [.int .i64 p0, .int .i64 p1]) rfl ?_
  have hev : Ev [] w w := Ev.refl _ _
  have hms : MS w [[]] := ⟨List.pairwise_singleton _ _, fun l hl b hb => by simp only [List.mem_singleton] at hl; subst hl; cases hb⟩
  have hfr : FR w.heap.size [] := FR.nil _
  refine c_seq (c_plain ?_)
  refine x_pure 1 [(4, .bool false)] _ _ _ (by kernel_rfl) ?_
  refine x_end rfl (k_then ?_)
  refine c_seq (c_plain ?_)
  refine x_pure 11 [(13, .int .i64 p0), (14, .int .i64 (Int.tmod p0 32)), (15, .int .i64 (IntKind.i64.wrap ((Int.tmod p0 32) + 32))), (16, .int .i64 (Int.tmod (IntKind.i64.wrap ((Int.tmod p0 32) + 32)) 32)), (17, .int .i64 (IntKind.i64.wrap (1 + (Int.tmod (IntKind.i64.wrap ((Int.tmod p0 32) + 32)) 32)))), (18, .int .i64 p1), (19, .int .i64 (Int.tmod p1 4)), (20, .int .i64 (IntKind.i64.wrap ((Int.tmod p1 4) + 4))), (21, .int .i64 (Int.tmod (IntKind.i64.wrap ((Int.tmod p1 4) + 4)) 4)), (0, .int .i64 (IntKind.i64.wrap (1 + (Int.tmod (IntKind.i64.wrap ((Int.tmod p0 32) + 32)) 32)))), (1, .int .i64 (Int.tmod (IntKind.i64.wrap ((Int.tmod p1 4) + 4)) 4))] _ _ _ (by kernel_rfl) ?_
  refine x_end rfl (k_then ?_)
  refine c_seq (c_plain ?_)
  refine x_pure 1 [(22, .int .i64 (Int.tmod (IntKind.i64.wrap ((Int.tmod p1 4) + 4)) 4))] _ _ _ (by kernel_rfl) ?_
  refine x_build (vs := [(1, .int .i64 (Int.tmod (IntKind.i64.wrap ((Int.tmod p1 4) + 4)) 4))]) (.agg #[.slice none 0 0, .int .i64 (Int.tmod (IntKind.i64.wrap ((Int.tmod p1 4) + 4)) 4)]) rfl rfl rfl (fun _ _ => by kernel_rfl) ?_
  refine x_alloc (z := .agg #[.slice none 0 0, .int .i64 0]) rfl rfl (by kernel_rfl) (fun b1 w1 hq1 hb1 he1 hz1 => ?_)
  replace hb1 : w1.heap[b1]? = some (.cells #[.slice none 0 0, .int .i64 0] 24 (0, 0)) := hb1
  refine ⟨.inl rfl, ?_⟩
  replace hms := hms.box he1 hq1 hb1
  replace hfr := hfr.box hev.size hq1
  replace hev := hev.ext he1
  obtain ⟨w3, hr3, hb3, he3⟩ := store_boxagg 0 [.slice none 0 0, .int .i64 (Int.tmod (IntKind.i64.wrap ((Int.tmod p1 4) + 4)) 4)] #[.slice none 0 0, .int .i64 (Int.tmod (IntKind.i64.wrap ((Int.tmod p1 4) + 4)) 4)] tagg24 hb1 rfl rfl rfl
  refine x_store w3 (xv := .pointer (some ⟨b1, 0, none⟩)) (yv := .agg #[.slice none 0 0, .int .i64 (Int.tmod (IntKind.i64.wrap ((Int.tmod p1 4) + 4)) 4)]) rfl rfl rfl rfl hr3 ?_
  refine ⟨.inl rfl, ?_⟩
  replace hms := hms.ev he3
  replace hev := hev.then he3 (fun b hb => .inr (hfr.at 0 rfl b hb))
  replace hb1 := hb3
  refine x_end rfl (k_then ?_)
  refine c_norm [(0, .int .i64 (IntKind.i64.wrap (1 + (Int.tmod (IntKind.i64.wrap ((Int.tmod p0 32) + 32)) 32)))), (1, .int .i64 (Int.tmod (IntKind.i64.wrap ((Int.tmod p1 4) + 4)) 4)), (5, .pointer (some ⟨b1, 0, none⟩))] ⟨rfl, rfl, rfl, trivial⟩ (fun J => ?_)
  refine c_seq ?_
  refine c_seq (c_plain ?_)
  refine x_pure 3 [(24, .int .i64 (IntKind.i64.wrap (1 + (Int.tmod (IntKind.i64.wrap ((Int.tmod p0 32) + 32)) 32)))), (25, .int .i64 (IntKind.i64.wrap ((IntKind.i64.wrap (1 + (Int.tmod (IntKind.i64.wrap ((Int.tmod p0 32) + 32)) 32))) - 1))), (6, .int .i64 (IntKind.i64.wrap ((IntKind.i64.wrap (1 + (Int.tmod (IntKind.i64.wrap ((Int.tmod p0 32) + 32)) 32))) - 1)))] _ _ _ (by kernel_rfl) ?_
  refine x_end rfl (k_then ?_)
  refine c_block ?_
  replace hb1 := (Ev.refl [] _).box hb1 nn
  replace hms := hms.push (l := blk none) (Ev.refl [] _) (fun _ h => by cases h)
  replace hfr := hfr.push (l := blk none) (fun _ h => by cases h)
  have ho6 := OwnS.nil (eProd (eInt .i64) (eProd (eInt .i64) (eProd (eInt .i64) (eInt .i64)))) 26 w3 (fl [blk none, [b1], []])
  obtain ⟨d5, hd5, h5⟩ := bind_some h
  obtain ⟨m5, hd5⟩ := loop_some hd5
  refine c_loop (loop_rule hmx (σ := Nat × (List (Int × Int × Int × Int)) × Int × Option Addr × Nat) (fun s => match s with | (_, d7_l5, b_s6_l5, a7_l5, c7_l5) => [(0, .int .i64 (IntKind.i64.wrap (1 + (Int.tmod (IntKind.i64.wrap ((Int.tmod p0 32) + 32)) 32)))), (1, .int .i64 (Int.tmod (IntKind.i64.wrap ((Int.tmod p1 4) + 4)) 4)), (5, .pointer (some ⟨b1, 0, none⟩)), (6, .int .i64 b_s6_l5)]) (fun s w' => match s with | (m, d7_l5, b_s6_l5, a7_l5, c7_l5) => loopN law13_LeastcodeLimits_L5 m (d7_l5, b_s6_l5) = some d5 ∧ Ev [] w w' ∧ MS w' [blk a7_l5, [b1], []] ∧ FR w.heap.size [blk a7_l5, [b1]] ∧ OwnS (eProd (eInt .i64) (eProd (eInt .i64) (eProd (eInt .i64) (eInt .i64)))) 26 w' (fl [blk a7_l5, [b1], []]) a7_l5 c7_l5 d7_l5 ∧ w'.heap[b1]? = some (.cells #[.slice a7_l5 (d7_l5).length c7_l5, .int .i64 (Int.tmod (IntKind.i64.wrap ((Int.tmod p1 4) + 4)) 4)] 24 (0, 0))) (fun s => s.1) (m5, ([] : List (Int × Int × Int × Int)), IntKind.i64.wrap ((IntKind.i64.wrap (1 + (Int.tmod (IntKind.i64.wrap ((Int.tmod p0 32) + 32)) 32))) - 1), none, 0) ⟨rfl, rfl, rfl, rfl, trivial⟩ ⟨hd5, hev, hms, hfr, ho6, hb1⟩ ?_)
  rintro ⟨m5, d7_l5, b_s6_l5, a7_l5, c7_l5⟩ J wl5 ⟨hn5, hev, hms, hfr, hj7_l5, hb1⟩
  rcases m5 with _ | m5
  · exact (loopN_zero hn5).elim
  obtain ⟨t5, h, hn5⟩ := bind_some hn5
  refine c_seq ?_
  refine c_seq (c_plain ?_)
  refine x_pure 2 [(26, .int .i64 b_s6_l5), (27, .bool (decide (b_s6_l5 ≥ 0)))] _ _ _ (by kernel_rfl) ?_
  refine x_end rfl (k_then ?_)
  refine c_norm [(0, .int .i64 (IntKind.i64.wrap (1 + (Int.tmod (IntKind.i64.wrap ((Int.tmod p0 32) + 32)) 32)))), (1, .int .i64 (Int.tmod (IntKind.i64.wrap ((Int.tmod p1 4) + 4)) 4)), (5, .pointer (some ⟨b1, 0, none⟩)), (6, .int .i64 b_s6_l5), (27, .bool (decide (b_s6_l5 ≥ 0)))] ⟨rfl, rfl, rfl, rfl, rfl, trivial⟩ (fun J => ?_)
  refine c_cond (decide (b_s6_l5 ≥ 0)) rfl (fun hb => ?_) (fun hb => ?_)
  · replace h := ite_t hb h
    refine c_skip ?_
    refine k_then ?_
    refine c_seq ?_
    refine c_block ?_
    refine c_plain ?_
    refine x_fieldAddr (xv := .pointer (some ⟨b1, 0, none⟩)) (.pointer (some ⟨b1, 0, none⟩)) rfl rfl rfl (reads_field tfld24_0 _ _) ?_
    refine x_load (xv := .pointer (some ⟨b1, 0, none⟩)) (.slice a7_l5 (d7_l5).length c7_l5) rfl rfl rfl (reads_box tcell22 hb1 nn 0 _ rfl) ?_
    refine x_pure 1 [(32, .int .i64 b_s6_l5)] _ _ _ (by kernel_rfl) ?_
    refine x_build (vs := [(1, .int .i64 b_s6_l5), (3, .int .i64 100)]) (.agg #[.int .i64 0, .int .i64 b_s6_l5, .int .i64 0, .int .i64 100]) rfl rfl rfl (fun _ _ => by kernel_rfl) ?_
    refine x_buildSlice (vs := [(0, .agg #[.int .i64 0, .int .i64 b_s6_l5, .int .i64 0, .int .i64 100])]) #[.int .i64 0, .int .i64 b_s6_l5, .int .i64 0, .int .i64 100] 26 rfl rfl rfl (by kernel_rfl) (fun b9 w9 hq9 hb9 he9 hz9 => ?_)
    refine ⟨.inl rfl, ?_⟩
    have hms0 := hms
    have hst := Stp.ext (ls := [blk a7_l5, [b1], []]) he9
    replace hb1 := he9.box hb1 nn
    replace hj7_l5 := hj7_l5.step hst he9 nn2
    replace hms := hms.ev he9
    replace hev := hev.ext he9
    have hs9 : SlR (eProd (eInt .i64) (eProd (eInt .i64) (eProd (eInt .i64) (eInt .i64)))) w9 (fl [blk a7_l5, [b1], []]) (some ⟨b9, 0, none⟩) 1 ([(0, b_s6_l5, 0, 100)] : List (Int × Int × Int × Int)) := ro_of_box hms0 hq9 hb9 rfl rfl (cells_at (cs := [.int .i64 0, .int .i64 b_s6_l5, .int .i64 0, .int .i64 100]) (CellsOf.cons (c := [.int .i64 0, .int .i64 b_s6_l5, .int .i64 0, .int .i64 100]) ⟨[.int .i64 0], [.int .i64 b_s6_l5, .int .i64 0, .int .i64 100], rfl, rfl, ⟨[.int .i64 b_s6_l5], [.int .i64 0, .int .i64 100], rfl, rfl, ⟨[.int .i64 0], [.int .i64 100], rfl, rfl, rfl⟩⟩⟩ CellsOf.nil))
    clear hb9 hms0
    have hg := guard_l h
    replace h := guard_r h
    obtain ⟨a11, c11, w11, hr11, he11, hn11, hm11, hw11⟩ := own_appendN tel22 22 hj7_l5 (mem_flat 0 rfl) hs9 hg
    refine x_builtin (vs := [.slice a7_l5 (d7_l5).length c7_l5, .slice (some ⟨b9, 0, none⟩) (([(0, b_s6_l5, 0, 100)] : List (Int × Int × Int × Int))).length 1]) _ w11 rfl rfl rfl rfl (run_value _ _ _ _ hr11) ?_
    refine ⟨.inl rfl, ?_⟩
    have hst : Stp (fl [blk a7_l5, [b1], []]) w9 (fl [blk a11, [b1], []]) w11 := Stp.upd 0 he11 rfl (fun b hb => (hn11 b hb).1)
    replace hb1 := he11.box hb1 (hms.apart 1 0 rfl rfl rfl _ (List.mem_singleton.2 rfl))
    replace hs9 := hs9.step hst
    replace hms : MS w11 [blk a11, [b1], []] := hms.upd 0 he11 rfl hn11
    have hfr2 : FR w.heap.size [blk a11, [b1]] := hfr.upd 0 rfl hev.size (fun b hb => (hn11 b hb).1)
    replace hev := hev.then he11 (fun b hb => .inr (hfr.at 0 rfl b hb))
    replace hfr := hfr2
    clear hfr2
    replace hj7_l5 := hw11 (fl [blk a11, [b1], []]) hst.new
    clear hw11
    refine x_fieldAddr (xv := .pointer (some ⟨b1, 0, none⟩)) (.pointer (some ⟨b1, 0, none⟩)) rfl rfl rfl (reads_field tfld24_0 _ _) ?_
    obtain ⟨w12, hr12, hb12, he12⟩ := store_box 0 (.slice a11 ((d7_l5 ++ ([(0, b_s6_l5, 0, 100)] : List (Int × Int × Int × Int)))).length c11) #[.slice a11 ((d7_l5 ++ ([(0, b_s6_l5, 0, 100)] : List (Int × Int × Int × Int)))).length c11, .int .i64 (Int.tmod (IntKind.i64.wrap ((Int.tmod p1 4) + 4)) 4)] tcell22 hb1 rfl rfl rfl
    refine x_store w12 (xv := .pointer (some ⟨b1, 0, none⟩)) (yv := .slice a11 ((d7_l5 ++ ([(0, b_s6_l5, 0, 100)] : List (Int × Int × Int × Int)))).length c11) rfl rfl rfl rfl hr12 ?_
    refine ⟨.inl rfl, ?_⟩
    have hst := Stp.ev' (ls := [blk a11, [b1], []]) he12 (mem_flat 1 rfl)
    replace hj7_l5 := hj7_l5.step hst he12 (hms.apart 0 1 rfl rfl rfl)
    replace hs9 := hs9.step hst
    replace hms := hms.ev he12
    replace hev := hev.then he12 (fun b hb => .inr (hfr.at 1 rfl b hb))
    replace hb1 := hb12
    refine x_end rfl ?_
    refine k_block ?_
    refine k_then ?_
    refine c_plain ?_
    refine x_pure 3 [(28, .int .i64 b_s6_l5), (29, .int .i64 (IntKind.i64.wrap (b_s6_l5 - 1))), (6, .int .i64 (IntKind.i64.wrap (b_s6_l5 - 1)))] _ _ _ (by kernel_rfl) ?_
    refine x_end rfl ?_
    have hx := some_inj h
    subst hx
    exact k_then ⟨(m5, (d7_l5 ++ ([(0, b_s6_l5, 0, 100)] : List (Int × Int × Int × Int))), IntKind.i64.wrap (b_s6_l5 - 1), a11, c11), ⟨rfl, rfl, rfl, rfl, trivial⟩, ⟨hn5, hev, hms, hfr, hj7_l5, hb1⟩, Nat.lt_succ_self _⟩
  replace h := ite_f hb h
  refine c_exit ?_
  refine k_then_exit ?_
  have hx := some_inj h
  subst hx
  have hy := some_inj hn5
  subst hy
  replace h := h5
  refine k_then_exit ?_
  refine k_block_in ?_
  refine k_then ?_
  refine c_norm [(0, .int .i64 (IntKind.i64.wrap (1 + (Int.tmod (IntKind.i64.wrap ((Int.tmod p0 32) + 32)) 32)))), (1, .int .i64 (Int.tmod (IntKind.i64.wrap ((Int.tmod p1 4) + 4)) 4)), (5, .pointer (some ⟨b1, 0, none⟩))] ⟨rfl, rfl, rfl, trivial⟩ (fun J => ?_)
  refine c_seq (c_plain ?_)
  refine x_load (xv := .pointer (some ⟨b1, 0, none⟩)) (.agg #[.slice a7_l5 (d7_l5).length c7_l5, .int .i64 (Int.tmod (IntKind.i64.wrap ((Int.tmod p1 4) + 4)) 4)]) rfl rfl rfl (reads_boxagg 0 [.slice a7_l5 (d7_l5).length c7_l5, .int .i64 (Int.tmod (IntKind.i64.wrap ((Int.tmod p1 4) + 4)) 4)] tagg24 hb1 nn rfl) ?_
  obtain ⟨x13, hx, h⟩ := bind_some h
  have hpk : MS wl5 ([] ++ [[b1], []]) := hms.pick [some 1, some 2] _ rfl
  have hsb0 : ∀ x ∈ fl ([] ++ [[b1], []]), x ∈ fl [blk a7_l5, [b1], []] := pick_sub [some 1, some 2] _ rfl
  have hsb : ∀ x ∈ fl ([] ++ [(fl [[b1], []])]), x ∈ fl [blk a7_l5, [b1], []] := fun x hx => hsb0 x (fl_unfold x hx)
  have hcall := leastcode_Least_w a7_l5 c7_l5 d7_l5 (Int.tmod (IntKind.i64.wrap ((Int.tmod p1 4) + 4)) 4) _ wl5 (fl [[b1], []]) (MS.fold (P := []) hpk) (hj7_l5.ro hsb (fun b hb hb2 => pick_out hms 0 rfl [some 1, some 2] ([] ++ [[b1], []]) rfl rfl b hb (fl_unfold b hb2))) hx
  refine x_call 12 #[] #[] [.agg #[.slice a7_l5 (d7_l5).length c7_l5, .int .i64 (Int.tmod (IntKind.i64.wrap ((Int.tmod p1 4) + 4)) 4)]] _ rfl rfl rfl rfl hcall ?_
  rintro v w14 ⟨a0_14, c0_14, rfl, he14, hmn14, hfn14, hf14_1⟩
  clear hcall hx
  refine ⟨.inl rfl, ?_⟩
  have hpk2 : MS wl5 ([] ++ [blk a7_l5, [b1], []]) := hms.pick [some 0, some 1, some 2] _ rfl
  have hsb2 : ∀ x ∈ fl ([] ++ [blk a7_l5, [b1], []]), x ∈ fl [blk a7_l5, [b1], []] := pick_sub [some 0, some 1, some 2] _ rfl
  have hst0 := Stp.call (LS := [blk a7_l5, [b1], []]) (res := [blk a0_14]) (par := []) (R := [blk a7_l5, [b1], []]) he14 (fun b hb => hsb2 b (fl_left' (P := []) b hb)) hfn14 (NP.init _ _) (fun x hx => hsb2 x (fl_right' (P := []) x hx))
  have hsn : ∀ x ∈ fl [blk a0_14, blk a7_l5, [b1], []], x ∈ fl ([blk a0_14] ++ ([] ++ [blk a7_l5, [b1], []])) := pick_sub [some 0, some 1, some 2, some 3] _ rfl
  have hst := hst0.res hsn
  replace hb1 := he14.box hb1 ((MS.outs (P := []) hpk2 1 rfl) _ (List.mem_singleton.2 rfl))
  replace hj7_l5 := hj7_l5.step hst he14 (MS.outs (P := []) hpk2 0 rfl)
  replace hms : MS w14 [blk a0_14, blk a7_l5, [b1], []] := (MS.call (P := []) (R := [blk a7_l5, [b1], []]) (res := [blk a0_14]) (par := []) hpk2 he14 hmn14 hfn14 (NP.init _ _)).pick [some 0, some 1, some 2, some 3] _ rfl
  have hfr2 : FR w.heap.size [blk a0_14, blk a7_l5, [b1]] := (FR.cons (fun b hb => Nat.le_trans hev.size (hfn14.at 0 rfl b hb)) (FR.cons (hfr.at 0 rfl) (FR.cons (hfr.at 1 rfl) (FR.nil _))))
  replace hev := hev.ext he14
  replace hfr := hfr2
  clear hfr2
  replace hf14_1 := OwnS.plain (M' := fl [blk a0_14, blk a7_l5, [b1], []]) (plain_int _) hf14_1
  clear hpk hsb hsb0 hpk2 hsb2 hst0 hsn hst
  have hpk : MS w14 [blk a7_l5, [b1], []] := hms.pick [some 1, some 2, some 3] _ rfl
  have hsu : ∀ x ∈ fl [blk a7_l5, [b1], []], x ∈ fl [blk a0_14, blk a7_l5, [b1], []] := pick_sub [some 1, some 2, some 3] _ rfl
  replace hj7_l5 := hj7_l5.sub hsu
  replace hf14_1 := hf14_1.ro hsu (pick_out hms 0 rfl [some 1, some 2, some 3] [blk a7_l5, [b1], []] rfl rfl)
  replace hms := hpk
  replace hfr : FR w.heap.size [blk a7_l5, [b1]] := hfr.pick [some 1, some 2] _ rfl
  clear hpk hsu
  refine x_pure 3 [(37, .tuple #[.agg #[.int .i64 x13.1.1, .slice a0_14 (x13.1.2).length c0_14], .int .i64 x13.2]), (40, .agg #[.int .i64 x13.1.1, .slice a0_14 (x13.1.2).length c0_14]), (41, .int .i64 x13.2)] _ _ _ (by kernel_rfl) ?_
  refine x_alloc (z := .agg #[.int .i64 0, .slice none 0 0]) rfl rfl (by kernel_rfl) (fun b16 w16 hq16 hb16 he16 hz16 => ?_)
  replace hb16 : w16.heap[b16]? = some (.cells #[.int .i64 0, .slice none 0 0] 29 (0, 0)) := hb16
  refine ⟨.inl rfl, ?_⟩
  have hst := Stp.box (ls := [blk a7_l5, [b1], []]) he16 hq16
  replace hb1 := he16.box hb1 nn
  replace hj7_l5 := hj7_l5.step hst he16 nn2
  replace hf14_1 := hf14_1.step hst
  replace hms := hms.box he16 hq16 hb16
  replace hfr := hfr.box hev.size hq16
  replace hev := hev.ext he16
  obtain ⟨w18, hr18, hb18, he18⟩ := store_boxagg 0 [.int .i64 x13.1.1, .slice a0_14 (x13.1.2).length c0_14] #[.int .i64 x13.1.1, .slice a0_14 (x13.1.2).length c0_14] tagg29 hb16 rfl rfl rfl
  refine x_store w18 (xv := .pointer (some ⟨b16, 0, none⟩)) (yv := .agg #[.int .i64 x13.1.1, .slice a0_14 (x13.1.2).length c0_14]) rfl rfl rfl rfl hr18 ?_
  refine ⟨.inl rfl, ?_⟩
  have hst := Stp.ev' (ls := [[b16], blk a7_l5, [b1], []]) he18 (mem_flat 0 rfl)
  replace hb1 := he18.box hb1 (hms.apart 2 0 rfl rfl rfl _ (List.mem_singleton.2 rfl))
  replace hj7_l5 := hj7_l5.step hst he18 (hms.apart 1 0 rfl rfl rfl)
  replace hf14_1 := hf14_1.step hst
  replace hms := hms.ev he18
  replace hev := hev.then he18 (fun b hb => .inr (hfr.at 0 rfl b hb))
  replace hb16 := hb18
  refine x_pure 1 [(8, .int .i64 x13.2)] _ _ _ (by kernel_rfl) ?_
  refine x_end rfl (k_then ?_)
  refine c_seq (c_plain ?_)
  refine x_pure 1 [(43, .int .i64 (Int.tmod (IntKind.i64.wrap ((Int.tmod p1 4) + 4)) 4))] _ _ _ (by kernel_rfl) ?_
  obtain ⟨x19, hx, h⟩ := bind_some h
  have hcall := code_Count_w 12 0 (Int.tmod (IntKind.i64.wrap ((Int.tmod p1 4) + 4)) 4) _ w18 hx
  refine x_call 33 #[] #[] [.int .i64 12, .int .i64 0, .int .i64 (Int.tmod (IntKind.i64.wrap ((Int.tmod p1 4) + 4)) 4)] _ rfl rfl rfl rfl hcall ?_
  rintro v w20 ⟨rfl, he20⟩
  clear hcall hx
  refine ⟨.inl rfl, ?_⟩
  have hst := Stp.ext (ls := [[b16], blk a7_l5, [b1], []]) he20
  replace hb1 := he20.box hb1 nn
  replace hj7_l5 := hj7_l5.step hst he20 nn2
  replace hf14_1 := hf14_1.step hst
  replace hb16 := he20.box hb16 nn
  replace hms := hms.ev he20
  replace hev := hev.ext he20
  refine x_pure 5 [(42, .tuple #[.int .i64 x19.1, .int .i64 x19.2]), (45, .int .i64 x19.1), (46, .int .i64 x19.2), (9, .int .i64 x19.1), (10, .int .i64 x19.2)] _ _ _ (by kernel_rfl) ?_
  refine x_end rfl (k_then ?_)
  refine c_norm [(0, .int .i64 (IntKind.i64.wrap (1 + (Int.tmod (IntKind.i64.wrap ((Int.tmod p0 32) + 32)) 32)))), (1, .int .i64 (Int.tmod (IntKind.i64.wrap ((Int.tmod p1 4) + 4)) 4)), (5, .pointer (some ⟨b1, 0, none⟩)), (7, .pointer (some ⟨b16, 0, none⟩)), (8, .int .i64 x13.2), (9, .int .i64 x19.1), (10, .int .i64 x19.2)] ⟨rfl, rfl, rfl, rfl, rfl, rfl, rfl, trivial⟩ (fun J => ?_)
  refine c_seq ?_
  refine c_seq (c_plain ?_)
  refine x_pure 2 [(47, .int .i64 x19.2), (48, .bool (x19.2 != 0))] _ _ _ (by kernel_rfl) ?_
  refine x_end rfl (k_then ?_)
  refine c_cond (x19.2 != 0) rfl (fun hb => ?_) (fun hb => ?_)
  · replace h := ite_t hb h
    refine c_seq (c_plain ?_)
    refine x_pure 1 [(4, .bool false)] _ _ _ (by kernel_rfl) ?_
    refine x_end rfl (k_then ?_)
    refine c_ret ?_
    refine k_then_ret ?_
    refine r_ret (r_vals [.bool false] ⟨rfl, trivial⟩ ?_)
    have hx := some_inj h
    subst hx
    exact ⟨rfl, hev⟩
  replace h := ite_f hb h
  refine c_skip ?_
  refine k_then ?_
  refine c_seq ?_
  refine c_seq (c_plain ?_)
  refine x_pure 3 [(49, .int .i64 (IntKind.i64.wrap (1 + (Int.tmod (IntKind.i64.wrap ((Int.tmod p0 32) + 32)) 32)))), (50, .int .i64 x19.1), (51, .bool (decide ((IntKind.i64.wrap (1 + (Int.tmod (IntKind.i64.wrap ((Int.tmod p0 32) + 32)) 32))) > x19.1)))] _ _ _ (by kernel_rfl) ?_
  refine x_end rfl (k_then ?_)
  refine c_cond (decide ((IntKind.i64.wrap (1 + (Int.tmod (IntKind.i64.wrap ((Int.tmod p0 32) + 32)) 32))) > x19.1)) rfl (fun hb => ?_) (fun hb => ?_)
  · replace h := ite_t hb h
    refine c_seq (c_plain ?_)
    refine x_load (xv := .pointer (some ⟨b1, 0, none⟩)) (.agg #[.slice a7_l5 (d7_l5).length c7_l5, .int .i64 (Int.tmod (IntKind.i64.wrap ((Int.tmod p1 4) + 4)) 4)]) rfl rfl rfl (reads_boxagg 0 [.slice a7_l5 (d7_l5).length c7_l5, .int .i64 (Int.tmod (IntKind.i64.wrap ((Int.tmod p1 4) + 4)) 4)] tagg24 hb1 nn rfl) ?_
    obtain ⟨x23, hx, h⟩ := bind_some h
    have hpk : MS w20 ([] ++ [[b16], [b1], []]) := hms.pick [some 0, some 2, some 3] _ rfl
    have hsb0 : ∀ x ∈ fl ([] ++ [[b16], [b1], []]), x ∈ fl [[b16], blk a7_l5, [b1], []] := pick_sub [some 0, some 2, some 3] _ rfl
    have hsb : ∀ x ∈ fl ([] ++ [(fl [[b16], [b1], []])]), x ∈ fl [[b16], blk a7_l5, [b1], []] := fun x hx => hsb0 x (fl_unfold x hx)
    have hcall := leastcode_Witness_w a7_l5 c7_l5 d7_l5 (Int.tmod (IntKind.i64.wrap ((Int.tmod p1 4) + 4)) 4) _ w20 (fl [[b16], [b1], []]) (MS.fold (P := []) hpk) (hj7_l5.ro hsb (fun b hb hb2 => pick_out hms 1 rfl [some 0, some 2, some 3] ([] ++ [[b16], [b1], []]) rfl rfl b hb (fl_unfold b hb2))) hx
    refine x_call 20 #[] #[] [.agg #[.slice a7_l5 (d7_l5).length c7_l5, .int .i64 (Int.tmod (IntKind.i64.wrap ((Int.tmod p1 4) + 4)) 4)]] _ rfl rfl rfl rfl hcall ?_
    rintro v w24 ⟨a0_24, c0_24, rfl, he24, hmn24, hfn24, hf24_1⟩
    clear hcall hx
    refine ⟨.inl rfl, ?_⟩
    have hpk2 : MS w20 ([] ++ [[b16], blk a7_l5, [b1], []]) := hms.pick [some 0, some 1, some 2, some 3] _ rfl
    have hsb2 : ∀ x ∈ fl ([] ++ [[b16], blk a7_l5, [b1], []]), x ∈ fl [[b16], blk a7_l5, [b1], []] := pick_sub [some 0, some 1, some 2, some 3] _ rfl
    have hst0 := Stp.call (LS := [[b16], blk a7_l5, [b1], []]) (res := [blk a0_24]) (par := []) (R := [[b16], blk a7_l5, [b1], []]) he24 (fun b hb => hsb2 b (fl_left' (P := []) b hb)) hfn24 (NP.init _ _) (fun x hx => hsb2 x (fl_right' (P := []) x hx))
    have hsn : ∀ x ∈ fl [blk a0_24, [b16], blk a7_l5, [b1], []], x ∈ fl ([blk a0_24] ++ ([] ++ [[b16], blk a7_l5, [b1], []])) := pick_sub [some 0, some 1, some 2, some 3, some 4] _ rfl
    have hst := hst0.res hsn
    replace hb1 := he24.box hb1 ((MS.outs (P := []) hpk2 2 rfl) _ (List.mem_singleton.2 rfl))
    replace hj7_l5 := hj7_l5.step hst he24 (MS.outs (P := []) hpk2 1 rfl)
    replace hf14_1 := hf14_1.step hst
    replace hb16 := he24.box hb16 ((MS.outs (P := []) hpk2 0 rfl) _ (List.mem_singleton.2 rfl))
    replace hms : MS w24 [blk a0_24, [b16], blk a7_l5, [b1], []] := (MS.call (P := []) (R := [[b16], blk a7_l5, [b1], []]) (res := [blk a0_24]) (par := []) hpk2 he24 hmn24 hfn24 (NP.init _ _)).pick [some 0, some 1, some 2, some 3, some 4] _ rfl
    have hfr2 : FR w.heap.size [blk a0_24, [b16], blk a7_l5, [b1]] := (FR.cons (fun b hb => Nat.le_trans hev.size (hfn24.at 0 rfl b hb)) (FR.cons (hfr.at 0 rfl) (FR.cons (hfr.at 1 rfl) (FR.cons (hfr.at 2 rfl) (FR.nil _)))))
    replace hev := hev.ext he24
    replace hfr := hfr2
    clear hfr2
    replace hf24_1 := OwnS.plain (M' := fl [blk a0_24, [b16], blk a7_l5, [b1], []]) (plain_int _) hf24_1
    clear hpk hsb hsb0 hpk2 hsb2 hst0 hsn hst
    have hpk : MS w24 [[b16], blk a7_l5, [b1], []] := hms.pick [some 1, some 2, some 3, some 4] _ rfl
    have hsu : ∀ x ∈ fl [[b16], blk a7_l5, [b1], []], x ∈ fl [blk a0_24, [b16], blk a7_l5, [b1], []] := pick_sub [some 1, some 2, some 3, some 4] _ rfl
    replace hj7_l5 := hj7_l5.sub hsu
    replace hf14_1 := hf14_1.sub hsu
    replace hf24_1 := hf24_1.ro hsu (pick_out hms 0 rfl [some 1, some 2, some 3, some 4] [[b16], blk a7_l5, [b1], []] rfl rfl)
    replace hms := hpk
    replace hfr : FR w.heap.size [[b16], blk a7_l5, [b1]] := hfr.pick [some 1, some 2, some 3] _ rfl
    clear hpk hsu
    refine x_pure 5 [(52, .tuple #[.slice a0_24 (x23.1).length c0_24, .int .i64 x23.2]), (55, .slice a0_24 (x23.1).length c0_24), (56, .int .i64 x23.2), (11, .slice a0_24 (x23.1).length c0_24), (12, .int .i64 x23.2)] _ _ _ (by kernel_rfl) ?_
    refine x_end rfl (k_then ?_)
    refine c_norm [(8, .int .i64 x13.2), (12, .int .i64 x23.2)] ⟨rfl, rfl, trivial⟩ (fun J => ?_)
    refine c_seq (c_plain ?_)
    refine x_pure 3 [(57, .int .i64 x13.2), (58, .bool (x13.2 == 15)), (59, .bool (x13.2 == 15))] _ _ _ (by kernel_rfl) ?_
    refine x_split 59 (x13.2 == 15) rfl (fun hb => ?_) (fun hb => ?_)
    · replace h := ite_t hb h
      refine x_pure 4 [(60, .int .i64 x23.2), (61, .bool (x23.2 == 15)), (62, .bool (x23.2 == 15)), (63, .bool (x23.2 == 15))] _ _ _ (by kernel_rfl) ?_
      refine x_split 63 (x23.2 == 15) rfl (fun hb => ?_) (fun hb => ?_)
      · replace h := ite_t hb h
        obtain ⟨x26, hx, h⟩ := bind_some h
        have hcall := law13_sane_w _ w24 hx
        refine x_call 13 #[] #[] [] _ rfl rfl rfl rfl hcall ?_
        rintro v w27 ⟨rfl, he27⟩
        clear hcall hx
        refine ⟨.inl rfl, ?_⟩
        have hst := Stp.ext (ls := [[b16], blk a7_l5, [b1], []]) he27
        replace hb1 := he27.box hb1 nn
        replace hj7_l5 := hj7_l5.step hst he27 nn2
        replace hf14_1 := hf14_1.step hst
        replace hb16 := he27.box hb16 nn
        replace hms := hms.ev he27
        replace hev := hev.ext he27
        refine x_pure 2 [(65, .bool x26), (4, .bool x26)] _ _ _ (by kernel_rfl) ?_
        refine x_end rfl (k_then ?_)
        refine c_ret ?_
        refine k_then_ret ?_
        refine r_ret (r_vals [.bool x26] ⟨rfl, trivial⟩ ?_)
        have hx := some_inj h
        subst hx
        exact ⟨rfl, hev⟩
      replace h := ite_f hb h
      refine x_pure 3 [(64, undef), (65, .bool false), (4, .bool false)] _ _ _ (by kernel_rfl) ?_
      refine x_end rfl (k_then ?_)
      refine c_ret ?_
      refine k_then_ret ?_
      refine r_ret (r_vals [.bool false] ⟨rfl, trivial⟩ ?_)
      have hx := some_inj h
      subst hx
      exact ⟨rfl, hev⟩
    replace h := ite_f hb h
    refine x_pure 7 [(60, undef), (61, undef), (62, .bool false), (63, .bool false), (64, undef), (65, .bool false), (4, .bool false)] _ _ _ (by kernel_rfl) ?_
    refine x_end rfl (k_then ?_)
    refine c_ret ?_
    refine k_then_ret ?_
    refine r_ret (r_vals [.bool false] ⟨rfl, trivial⟩ ?_)
    have hx := some_inj h
    subst hx
    exact ⟨rfl, hev⟩
  replace h := ite_f hb h
  refine c_skip ?_
  refine k_then ?_
  refine c_seq (c_plain ?_)
  refine x_pure 3 [(66, .int .i64 x13.2), (67, .bool (x13.2 == 0)), (68, .bool (x13.2 == 0))] _ _ _ (by kernel_rfl) ?_
  refine x_split 68 (x13.2 == 0) rfl (fun hb => ?_) (fun hb => ?_)
  · replace h := ite_t hb h
    refine x_fieldAddr (xv := .pointer (some ⟨b16, 0, none⟩)) (.pointer (some ⟨b16, 1, none⟩)) rfl rfl rfl (reads_field tfld29_1 _ _) ?_
    refine x_load (xv := .pointer (some ⟨b16, 1, none⟩)) (.slice a0_14 (x13.1.2).length c0_14) rfl rfl rfl (reads_box tcell27 hb16 nn 1 _ rfl) ?_
    refine x_len (vs := [.slice a0_14 (x13.1.2).length c0_14]) (.int .i64 ((x13.1.2).length : Int)) rfl rfl rfl (reads_len tsl27 _ _ _ _ _) ?_
    refine x_pure 4 [(72, .int .i64 (IntKind.i64.wrap (1 + (Int.tmod (IntKind.i64.wrap ((Int.tmod p0 32) + 32)) 32)))), (73, .bool (((x13.1.2).length : Int) == (IntKind.i64.wrap (1 + (Int.tmod (IntKind.i64.wrap ((Int.tmod p0 32) + 32)) 32))))), (74, .bool (((x13.1.2).length : Int) == (IntKind.i64.wrap (1 + (Int.tmod (IntKind.i64.wrap ((Int.tmod p0 32) + 32)) 32))))), (75, .bool (((x13.1.2).length : Int) == (IntKind.i64.wrap (1 + (Int.tmod (IntKind.i64.wrap ((Int.tmod p0 32) + 32)) 32)))))] _ _ _ (by kernel_rfl) ?_
    refine x_split 75 (((x13.1.2).length : Int) == (IntKind.i64.wrap (1 + (Int.tmod (IntKind.i64.wrap ((Int.tmod p0 32) + 32)) 32)))) rfl (fun hb => ?_) (fun hb => ?_)
    · replace h := ite_t hb h
      refine x_fieldAddr (xv := .pointer (some ⟨b16, 0, none⟩)) (.pointer (some ⟨b16, 1, none⟩)) rfl rfl rfl (reads_field tfld29_1 _ _) ?_
      refine x_load (xv := .pointer (some ⟨b16, 1, none⟩)) (.slice a0_14 (x13.1.2).length c0_14) rfl rfl rfl (reads_box tcell27 hb16 nn 1 _ rfl) ?_
      refine x_pure 2 [(78, .int .i64 (IntKind.i64.wrap (1 + (Int.tmod (IntKind.i64.wrap ((Int.tmod p0 32) + 32)) 32)))), (79, .int .i64 (IntKind.i64.wrap ((IntKind.i64.wrap (1 + (Int.tmod (IntKind.i64.wrap ((Int.tmod p0 32) + 32)) 32))) - 1)))] _ _ _ (by kernel_rfl) ?_
      obtain ⟨x28, hx28, h⟩ := bind_some h
      obtain ⟨ad28, cs28, hr28, hc28, hR⟩ := reads_index (Mo := []) tsl27 hf14_1 hx28
      obtain rfl := hR
      refine x_indexAddr (xv := .slice a0_14 (x13.1.2).length c0_14) (yv := .int .i64 (IntKind.i64.wrap ((IntKind.i64.wrap (1 + (Int.tmod (IntKind.i64.wrap ((Int.tmod p0 32) + 32)) 32))) - 1))) (.pointer (some ad28)) rfl rfl rfl rfl hr28 ?_
      refine x_load (xv := .pointer (some ad28)) (.int .i64 x28) rfl rfl rfl (reads_cell0 tcell3 hc28 (fun _ h => by cases h)) ?_
      refine x_pure 3 [(82, .bool (x28 == 0)), (83, .bool (x28 == 0)), (84, .bool (x28 == 0))] _ _ _ (by kernel_rfl) ?_
      refine x_split 84 (x28 == 0) rfl (fun hb => ?_) (fun hb => ?_)
      · replace h := ite_t hb h
        refine x_pure 3 [(85, .int .i64 (Int.tmod (IntKind.i64.wrap ((Int.tmod p1 4) + 4)) 4)), (86, .bool ((Int.tmod (IntKind.i64.wrap ((Int.tmod p1 4) + 4)) 4) != 1)), (87, .bool ((Int.tmod (IntKind.i64.wrap ((Int.tmod p1 4) + 4)) 4) != 1))] _ _ _ (by kernel_rfl) ?_
        refine x_split 87 ((Int.tmod (IntKind.i64.wrap ((Int.tmod p1 4) + 4)) 4) != 1) rfl (fun hb => ?_) (fun hb => ?_)
        · replace h := ite_t hb h
          refine x_pure 8 [(88, undef), (89, undef), (90, undef), (91, undef), (92, undef), (93, .bool true), (94, .bool true), (95, .bool true)] _ _ _ (by kernel_rfl) ?_
          obtain ⟨x30, hx, h⟩ := bind_some h
          have hcall := law13_sane_w _ w20 hx
          refine x_call 13 #[] #[] [] _ rfl rfl rfl rfl hcall ?_
          rintro v w31 ⟨rfl, he31⟩
          clear hcall hx
          refine ⟨.inl rfl, ?_⟩
          have hst := Stp.ext (ls := [[b16], blk a7_l5, [b1], []]) he31
          replace hb1 := he31.box hb1 nn
          replace hj7_l5 := hj7_l5.step hst he31 nn2
          replace hf14_1 := hf14_1.step hst
          replace hb16 := he31.box hb16 nn
          replace hc28 := hc28.step hst
          replace hms := hms.ev he31
          replace hev := hev.ext he31
          refine x_pure 2 [(97, .bool x30), (4, .bool x30)] _ _ _ (by kernel_rfl) ?_
          refine x_end rfl (k_then ?_)
          refine c_norm [(4, .bool x30)] ⟨rfl, trivial⟩ (fun J => ?_)
          refine c_ret ?_
          refine r_ret (r_vals [.bool x30] ⟨rfl, trivial⟩ ?_)
          have hx := some_inj h
          subst hx
          exact ⟨rfl, hev⟩
        replace h := ite_f hb h
        refine x_fieldAddr (xv := .pointer (some ⟨b16, 0, none⟩)) (.pointer (some ⟨b16, 0, none⟩)) rfl rfl rfl (reads_field tfld29_0 _ _) ?_
        refine x_load (xv := .pointer (some ⟨b16, 0, none⟩)) (.int .i64 x13.1.1) rfl rfl rfl (reads_box tcell3 hb16 nn 0 _ rfl) ?_
        refine x_pure 6 [(90, .int .i64 (IntKind.i64.wrap (1 + (Int.tmod (IntKind.i64.wrap ((Int.tmod p0 32) + 32)) 32)))), (91, .int .i64 (IntKind.i64.wrap ((IntKind.i64.wrap (1 + (Int.tmod (IntKind.i64.wrap ((Int.tmod p0 32) + 32)) 32))) - 1))), (92, .bool (x13.1.1 == (IntKind.i64.wrap ((IntKind.i64.wrap (1 + (Int.tmod (IntKind.i64.wrap ((Int.tmod p0 32) + 32)) 32))) - 1)))), (93, .bool (x13.1.1 == (IntKind.i64.wrap ((IntKind.i64.wrap (1 + (Int.tmod (IntKind.i64.wrap ((Int.tmod p0 32) + 32)) 32))) - 1)))), (94, .bool (x13.1.1 == (IntKind.i64.wrap ((IntKind.i64.wrap (1 + (Int.tmod (IntKind.i64.wrap ((Int.tmod p0 32) + 32)) 32))) - 1)))), (95, .bool (x13.1.1 == (IntKind.i64.wrap ((IntKind.i64.wrap (1 + (Int.tmod (IntKind.i64.wrap ((Int.tmod p0 32) + 32)) 32))) - 1))))] _ _ _ (by kernel_rfl) ?_
        refine x_split 95 (x13.1.1 == (IntKind.i64.wrap ((IntKind.i64.wrap (1 + (Int.tmod (IntKind.i64.wrap ((Int.tmod p0 32) + 32)) 32))) - 1))) rfl (fun hb => ?_) (fun hb => ?_)
        · replace h := ite_t hb h
          obtain ⟨x32, hx, h⟩ := bind_some h
          have hcall := law13_sane_w _ w20 hx
          refine x_call 13 #[] #[] [] _ rfl rfl rfl rfl hcall ?_
          rintro v w33 ⟨rfl, he33⟩
          clear hcall hx
          refine ⟨.inl rfl, ?_⟩
          have hst := Stp.ext (ls := [[b16], blk a7_l5, [b1], []]) he33
          replace hb1 := he33.box hb1 nn
          replace hj7_l5 := hj7_l5.step hst he33 nn2
          replace hf14_1 := hf14_1.step hst
          replace hb16 := he33.box hb16 nn
          replace hc28 := hc28.step hst
          replace hms := hms.ev he33
          replace hev := hev.ext he33
          refine x_pure 2 [(97, .bool x32), (4, .bool x32)] _ _ _ (by kernel_rfl) ?_
          refine x_end rfl (k_then ?_)
          refine c_norm [(4, .bool x32)] ⟨rfl, trivial⟩ (fun J => ?_)
          refine c_ret ?_
          refine r_ret (r_vals [.bool x32] ⟨rfl, trivial⟩ ?_)
          have hx := some_inj h
          subst hx
          exact ⟨rfl, hev⟩
        replace h := ite_f hb h
        refine x_pure 3 [(96, undef), (97, .bool false), (4, .bool false)] _ _ _ (by kernel_rfl) ?_
        refine x_end rfl (k_then ?_)
        refine c_norm [(4, .bool false)] ⟨rfl, trivial⟩ (fun J => ?_)
        refine c_ret ?_
        refine r_ret (r_vals [.bool false] ⟨rfl, trivial⟩ ?_)
        have hx := some_inj h
        subst hx
        exact ⟨rfl, hev⟩
      replace h := ite_f hb h
      refine x_pure 14 [(85, undef), (86, undef), (87, undef), (88, undef), (89, undef), (90, undef), (91, undef), (92, undef), (93, undef), (94, .bool false), (95, .bool false), (96, undef), (97, .bool false), (4, .bool false)] _ _ _ (by kernel_rfl) ?_
      refine x_end rfl (k_then ?_)
      refine c_norm [(4, .bool false)] ⟨rfl, trivial⟩ (fun J => ?_)
      refine c_ret ?_
      refine r_ret (r_vals [.bool false] ⟨rfl, trivial⟩ ?_)
      have hx := some_inj h
      subst hx
      exact ⟨rfl, hev⟩
    replace h := ite_f hb h
    refine x_pure 23 [(76, undef), (77, undef), (78, undef), (79, undef), (80, undef), (81, undef), (82, undef), (83, .bool false), (84, .bool false), (85, undef), (86, undef), (87, undef), (88, undef), (89, undef), (90, undef), (91, undef), (92, undef), (93, undef), (94, .bool false), (95, .bool false), (96, undef), (97, .bool false), (4, .bool false)] _ _ _ (by kernel_rfl) ?_
    refine x_end rfl (k_then ?_)
    refine c_norm [(4, .bool false)] ⟨rfl, trivial⟩ (fun J => ?_)
    refine c_ret ?_
    refine r_ret (r_vals [.bool false] ⟨rfl, trivial⟩ ?_)
    have hx := some_inj h
    subst hx
    exact ⟨rfl, hev⟩
  replace h := ite_f hb h
  refine x_pure 30 [(69, undef), (70, undef), (71, undef), (72, undef), (73, undef), (74, .bool false), (75, .bool false), (76, undef), (77, undef), (78, undef), (79, undef), (80, undef), (81, undef), (82, undef), (83, .bool false), (84, .bool false), (85, undef), (86, undef), (87, undef), (88, undef), (89, undef), (90, undef), (91, undef), (92, undef), (93, undef), (94, .bool false), (95, .bool false), (96, undef), (97, .bool false), (4, .bool false)] _ _ _ (by kernel_rfl) ?_
  refine x_end rfl (k_then ?_)
  refine c_norm [(4, .bool false)] ⟨rfl, trivial⟩ (fun J => ?_)
  refine c_ret ?_
  refine r_ret (r_vals [.bool false] ⟨rfl, trivial⟩ ?_)
  have hx := some_inj h
  subst hx
  exact ⟨rfl, hev⟩
end Go.Proofs.Ytgdaanhiagoonaa
