/- Walks, printed by program: each function returns what the partial function of the same name returns. Conditions: those of each theorem. -/
import Derived.Test.YtacimonplnlmgaaGT
import Derived.Test.YtacimonplnlmgaaGjob
import Derived.Test.YtacimonplnlmgaaGlaw11sane
set_option linter.unusedVariables false
set_option linter.unusedSimpArgs false
set_option maxRecDepth 4000
namespace Go.Proofs.Ytacimonplnlmgaa
open Go Go.V Go.Proofs
def law11_JobLimits_L22 (d7_x5 : List (Int × Int × Int × Int)) (x13 : (List Int) × Int) (s : Int) : Option (Step Int (Unit ⊕ Unit)) :=
match s with
| t70__s70_l22 =>
(if (decide (t70__s70_l22 < ((x13.1).length : Int))) = true then
((idx x13.1 t70__s70_l22).bind fun x24 =>
((idx d7_x5 t70__s70_l22).bind fun x26 =>
(if (x24 != x26.2.1) = true then
some (.done (.inl ()))
else
some (.next (IntKind.i64.wrap (t70__s70_l22 + 1))))))
else
some (.done (.inr ())))

def law11_JobLimits_L5 (p0 : Int) (p1 : Int) (s : (List (Int × Int × Int × Int)) × Int) : Option (Step ((List (Int × Int × Int × Int)) × Int) (List (Int × Int × Int × Int))) :=
match s with
| (d7_l5, i_s6_l5) =>
(if (decide (i_s6_l5 < (IntKind.i64.wrap (95 + (Int.tmod (IntKind.i64.wrap ((Int.tmod p0 3) + 3)) 3))))) = true then
(if d7_l5.length + ([(15, if (IntKind.i64.wrap ((IntKind.i64.wrap ((IntKind.i64.wrap (1 + (Int.tmod (IntKind.i64.wrap ((Int.tmod p1 32) + 32)) 32))) - 1)) - i_s6_l5)) > 0 then (IntKind.i64.wrap ((IntKind.i64.wrap ((IntKind.i64.wrap (1 + (Int.tmod (IntKind.i64.wrap ((Int.tmod p1 32) + 32)) 32))) - 1)) - i_s6_l5)) else 0, 12, 400)] : List (Int × Int × Int × Int)).length ≤ 4294967296 then
some (.next ((d7_l5 ++ ([(15, if (IntKind.i64.wrap ((IntKind.i64.wrap ((IntKind.i64.wrap (1 + (Int.tmod (IntKind.i64.wrap ((Int.tmod p1 32) + 32)) 32))) - 1)) - i_s6_l5)) > 0 then (IntKind.i64.wrap ((IntKind.i64.wrap ((IntKind.i64.wrap (1 + (Int.tmod (IntKind.i64.wrap ((Int.tmod p1 32) + 32)) 32))) - 1)) - i_s6_l5)) else 0, 12, 400)] : List (Int × Int × Int × Int))), IntKind.i64.wrap (i_s6_l5 + 1)))
else none)
else
some (.done d7_l5))

def law11_JobLimits (p0 : Int) (p1 : Int) : Option Bool :=
((loop (law11_JobLimits_L5 p0 p1) (([] : List (Int × Int × Int × Int)), 0)).bind fun d => match d with
| d7_x5 => ((job_Levels d7_x5 12).bind fun x13 =>
(if (decide ((IntKind.i64.wrap (95 + (Int.tmod (IntKind.i64.wrap ((Int.tmod p0 3) + 3)) 3))) > 96)) = true then
(if (x13.2 == 3) = true then
((job_Valid d7_x5 12).bind fun x17 =>
(if (x17 == 3) = true then
(if (((x13.1).length : Int) == 0) = true then
((law11_sane).bind fun x19 =>
some x19)
else
some false)
else
some false))
else
some false)
else
(if (x13.2 != 0) = true then
some false
else
(if (((x13.1).length : Int) != (IntKind.i64.wrap (95 + (Int.tmod (IntKind.i64.wrap ((Int.tmod p0 3) + 3)) 3)))) = true then
some false
else
((loop (law11_JobLimits_L22 d7_x5 x13) 0).bind fun d => match d with
| (.inl _) => some false
| (.inr _) => ((law11_sane).bind fun x28 =>
some x28)))))))

theorem law11_JobLimits_w (p0 : Int) (p1 : Int) (r : Bool) (w : World) (h : law11_JobLimits p0 p1 = some r) : CallVC Try.prog 3 [.int .i64 p0, .int .i64 p1] w fun v w' => v = .bool r ∧ Ev [] w w' := by
  refine calls_vc hmx Try.func3 (by kernel_rfl) rfl (rs := [.tmp 4]) rfl (by kernel_rfl) (args := [.int .i64 p0, .int .i64 p1]) rfl ?_
  have hev : Ev [] w w := Ev.refl _ _
  have hms : MS w [[]] := ⟨List.pairwise_singleton _ _, fun l hl b hb => by simp only [List.mem_singleton] at hl; subst hl; cases hb⟩
  have hfr : FR w.heap.size [] := FR.nil _
  refine c_seq (c_plain ?_)
  refine x_pure 1 [(4, .bool false)] _ _ _ (by kernel_rfl) ?_
  refine x_end rfl (k_then ?_)
  refine c_seq (c_plain ?_)
  refine x_pure 12 [(11, .int .i64 p0), (12, .int .i64 (Int.tmod p0 3)), (13, .int .i64 (IntKind.i64.wrap ((Int.tmod p0 3) + 3))), (14, .int .i64 (Int.tmod (IntKind.i64.wrap ((Int.tmod p0 3) + 3)) 3)), (15, .int .i64 (IntKind.i64.wrap (95 + (Int.tmod (IntKind.i64.wrap ((Int.tmod p0 3) + 3)) 3)))), (16, .int .i64 p1), (17, .int .i64 (Int.tmod p1 32)), (18, .int .i64 (IntKind.i64.wrap ((Int.tmod p1 32) + 32))), (19, .int .i64 (Int.tmod (IntKind.i64.wrap ((Int.tmod p1 32) + 32)) 32)), (20, .int .i64 (IntKind.i64.wrap (1 + (Int.tmod (IntKind.i64.wrap ((Int.tmod p1 32) + 32)) 32)))), (0, .int .i64 (IntKind.i64.wrap (95 + (Int.tmod (IntKind.i64.wrap ((Int.tmod p0 3) + 3)) 3)))), (1, .int .i64 (IntKind.i64.wrap (1 + (Int.tmod (IntKind.i64.wrap ((Int.tmod p1 32) + 32)) 32))))] _ _ _ (by kernel_rfl) ?_
  refine x_end rfl (k_then ?_)
  refine c_seq (c_plain ?_)
  refine x_build (vs := [(1, .int .i64 12)]) (.agg #[.slice none 0 0, .int .i64 12]) rfl rfl rfl (fun _ _ => by kernel_rfl) ?_
  refine x_alloc (z := .agg #[.slice none 0 0, .int .i64 0]) rfl rfl (by kernel_rfl) (fun b1 w1 hq1 hb1 he1 hz1 => ?_)
  replace hb1 : w1.heap[b1]? = some (.cells #[.slice none 0 0, .int .i64 0] 24 (0, 0)) := hb1
  refine ⟨.inl rfl, ?_⟩
  replace hms := hms.box he1 hq1 hb1
  replace hfr := hfr.box hev.size hq1
  replace hev := hev.ext he1
  obtain ⟨w3, hr3, hb3, he3⟩ := store_boxagg 0 [.slice none 0 0, .int .i64 12] #[.slice none 0 0, .int .i64 12] tagg24 hb1 rfl rfl rfl
  refine x_store w3 (xv := .pointer (some ⟨b1, 0, none⟩)) (yv := .agg #[.slice none 0 0, .int .i64 12]) rfl rfl rfl rfl hr3 ?_
  refine ⟨.inl rfl, ?_⟩
  replace hms := hms.ev he3
  replace hev := hev.then he3 (fun b hb => .inr (hfr.at 0 rfl b hb))
  replace hb1 := hb3
  refine x_end rfl (k_then ?_)
  refine c_norm [(0, .int .i64 (IntKind.i64.wrap (95 + (Int.tmod (IntKind.i64.wrap ((Int.tmod p0 3) + 3)) 3)))), (1, .int .i64 (IntKind.i64.wrap (1 + (Int.tmod (IntKind.i64.wrap ((Int.tmod p1 32) + 32)) 32)))), (5, .pointer (some ⟨b1, 0, none⟩))] ⟨rfl, rfl, rfl, trivial⟩ (fun J => ?_)
  refine c_seq ?_
  refine c_seq (c_plain ?_)
  refine x_pure 1 [(6, .int .i64 0)] _ _ _ (by kernel_rfl) ?_
  refine x_end rfl (k_then ?_)
  refine c_block ?_
  replace hb1 := (Ev.refl [] _).box hb1 nn
  replace hms := hms.push (l := blk none) (Ev.refl [] _) (fun _ h => by cases h)
  replace hfr := hfr.push (l := blk none) (fun _ h => by cases h)
  have ho6 := OwnS.nil (eProd (eInt .i64) (eProd (eInt .i64) (eProd (eInt .i64) (eInt .i64)))) 26 w3 (fl [blk none, [b1], []])
  obtain ⟨d5, hd5, h5⟩ := bind_some h
  obtain ⟨m5, hd5⟩ := loop_some hd5
  refine c_loop (loop_rule hmx (σ := Nat × (List (Int × Int × Int × Int)) × Int × Option Addr × Nat) (fun s => match s with | (_, d7_l5, i_s6_l5, a7_l5, c7_l5) => [(0, .int .i64 (IntKind.i64.wrap (95 + (Int.tmod (IntKind.i64.wrap ((Int.tmod p0 3) + 3)) 3)))), (1, .int .i64 (IntKind.i64.wrap (1 + (Int.tmod (IntKind.i64.wrap ((Int.tmod p1 32) + 32)) 32)))), (5, .pointer (some ⟨b1, 0, none⟩)), (6, .int .i64 i_s6_l5)]) (fun s w' => match s with | (m, d7_l5, i_s6_l5, a7_l5, c7_l5) => loopN (law11_JobLimits_L5 p0 p1) m (d7_l5, i_s6_l5) = some d5 ∧ Ev [] w w' ∧ MS w' [blk a7_l5, [b1], []] ∧ FR w.heap.size [blk a7_l5, [b1]] ∧ OwnS (eProd (eInt .i64) (eProd (eInt .i64) (eProd (eInt .i64) (eInt .i64)))) 26 w' (fl [blk a7_l5, [b1], []]) a7_l5 c7_l5 d7_l5 ∧ w'.heap[b1]? = some (.cells #[.slice a7_l5 (d7_l5).length c7_l5, .int .i64 12] 24 (0, 0))) (fun s => s.1) (m5, ([] : List (Int × Int × Int × Int)), 0, none, 0) ⟨rfl, rfl, rfl, rfl, trivial⟩ ⟨hd5, hev, hms, hfr, ho6, hb1⟩ ?_)
  rintro ⟨m5, d7_l5, i_s6_l5, a7_l5, c7_l5⟩ J wl5 ⟨hn5, hev, hms, hfr, hj7_l5, hb1⟩
  rcases m5 with _ | m5
  · exact (loopN_zero hn5).elim
  obtain ⟨t5, h, hn5⟩ := bind_some hn5
  refine c_seq ?_
  refine c_seq (c_plain ?_)
  refine x_pure 3 [(22, .int .i64 i_s6_l5), (23, .int .i64 (IntKind.i64.wrap (95 + (Int.tmod (IntKind.i64.wrap ((Int.tmod p0 3) + 3)) 3)))), (24, .bool (decide (i_s6_l5 < (IntKind.i64.wrap (95 + (Int.tmod (IntKind.i64.wrap ((Int.tmod p0 3) + 3)) 3))))))] _ _ _ (by kernel_rfl) ?_
  refine x_end rfl (k_then ?_)
  refine c_norm [(0, .int .i64 (IntKind.i64.wrap (95 + (Int.tmod (IntKind.i64.wrap ((Int.tmod p0 3) + 3)) 3)))), (1, .int .i64 (IntKind.i64.wrap (1 + (Int.tmod (IntKind.i64.wrap ((Int.tmod p1 32) + 32)) 32)))), (5, .pointer (some ⟨b1, 0, none⟩)), (6, .int .i64 i_s6_l5), (24, .bool (decide (i_s6_l5 < (IntKind.i64.wrap (95 + (Int.tmod (IntKind.i64.wrap ((Int.tmod p0 3) + 3)) 3))))))] ⟨rfl, rfl, rfl, rfl, rfl, trivial⟩ (fun J => ?_)
  refine c_cond (decide (i_s6_l5 < (IntKind.i64.wrap (95 + (Int.tmod (IntKind.i64.wrap ((Int.tmod p0 3) + 3)) 3))))) rfl (fun hb => ?_) (fun hb => ?_)
  · replace h := ite_t hb h
    refine c_skip ?_
    refine k_then ?_
    refine c_seq ?_
    refine c_block ?_
    refine c_plain ?_
    refine x_fieldAddr (xv := .pointer (some ⟨b1, 0, none⟩)) (.pointer (some ⟨b1, 0, none⟩)) rfl rfl rfl (reads_field tfld24_0 _ _) ?_
    refine x_load (xv := .pointer (some ⟨b1, 0, none⟩)) (.slice a7_l5 (d7_l5).length c7_l5) rfl rfl rfl (reads_box tcell22 hb1 nn 0 _ rfl) ?_
    refine x_pure 4 [(29, .int .i64 (IntKind.i64.wrap (1 + (Int.tmod (IntKind.i64.wrap ((Int.tmod p1 32) + 32)) 32)))), (30, .int .i64 (IntKind.i64.wrap ((IntKind.i64.wrap (1 + (Int.tmod (IntKind.i64.wrap ((Int.tmod p1 32) + 32)) 32))) - 1))), (31, .int .i64 i_s6_l5), (32, .int .i64 (IntKind.i64.wrap ((IntKind.i64.wrap ((IntKind.i64.wrap (1 + (Int.tmod (IntKind.i64.wrap ((Int.tmod p1 32) + 32)) 32))) - 1)) - i_s6_l5)))] _ _ _ (by kernel_rfl) ?_
    refine x_max (vs := [.int .i64 0, .int .i64 (IntKind.i64.wrap ((IntKind.i64.wrap ((IntKind.i64.wrap (1 + (Int.tmod (IntKind.i64.wrap ((Int.tmod p1 32) + 32)) 32))) - 1)) - i_s6_l5))]) (.int .i64 (if (IntKind.i64.wrap ((IntKind.i64.wrap ((IntKind.i64.wrap (1 + (Int.tmod (IntKind.i64.wrap ((Int.tmod p1 32) + 32)) 32))) - 1)) - i_s6_l5)) > 0 then (IntKind.i64.wrap ((IntKind.i64.wrap ((IntKind.i64.wrap (1 + (Int.tmod (IntKind.i64.wrap ((Int.tmod p1 32) + 32)) 32))) - 1)) - i_s6_l5)) else 0)) rfl rfl rfl (fun _ _ => rfl) ?_
    refine x_build (vs := [(0, .int .i64 15), (1, .int .i64 (if (IntKind.i64.wrap ((IntKind.i64.wrap ((IntKind.i64.wrap (1 + (Int.tmod (IntKind.i64.wrap ((Int.tmod p1 32) + 32)) 32))) - 1)) - i_s6_l5)) > 0 then (IntKind.i64.wrap ((IntKind.i64.wrap ((IntKind.i64.wrap (1 + (Int.tmod (IntKind.i64.wrap ((Int.tmod p1 32) + 32)) 32))) - 1)) - i_s6_l5)) else 0)), (2, .int .i64 12), (3, .int .i64 400)]) (.agg #[.int .i64 15, .int .i64 (if (IntKind.i64.wrap ((IntKind.i64.wrap ((IntKind.i64.wrap (1 + (Int.tmod (IntKind.i64.wrap ((Int.tmod p1 32) + 32)) 32))) - 1)) - i_s6_l5)) > 0 then (IntKind.i64.wrap ((IntKind.i64.wrap ((IntKind.i64.wrap (1 + (Int.tmod (IntKind.i64.wrap ((Int.tmod p1 32) + 32)) 32))) - 1)) - i_s6_l5)) else 0), .int .i64 12, .int .i64 400]) rfl rfl rfl (fun _ _ => by kernel_rfl) ?_
    refine x_buildSlice (vs := [(0, .agg #[.int .i64 15, .int .i64 (if (IntKind.i64.wrap ((IntKind.i64.wrap ((IntKind.i64.wrap (1 + (Int.tmod (IntKind.i64.wrap ((Int.tmod p1 32) + 32)) 32))) - 1)) - i_s6_l5)) > 0 then (IntKind.i64.wrap ((IntKind.i64.wrap ((IntKind.i64.wrap (1 + (Int.tmod (IntKind.i64.wrap ((Int.tmod p1 32) + 32)) 32))) - 1)) - i_s6_l5)) else 0), .int .i64 12, .int .i64 400])]) #[.int .i64 15, .int .i64 (if (IntKind.i64.wrap ((IntKind.i64.wrap ((IntKind.i64.wrap (1 + (Int.tmod (IntKind.i64.wrap ((Int.tmod p1 32) + 32)) 32))) - 1)) - i_s6_l5)) > 0 then (IntKind.i64.wrap ((IntKind.i64.wrap ((IntKind.i64.wrap (1 + (Int.tmod (IntKind.i64.wrap ((Int.tmod p1 32) + 32)) 32))) - 1)) - i_s6_l5)) else 0), .int .i64 12, .int .i64 400] 26 rfl rfl rfl (by kernel_rfl) (fun b9 w9 hq9 hb9 he9 hz9 => ?_)
    refine ⟨.inl rfl, ?_⟩
    have hms0 := hms
    have hst := Stp.ext (ls := [blk a7_l5, [b1], []]) he9
    replace hb1 := he9.box hb1 nn
    replace hj7_l5 := hj7_l5.step hst he9 nn2
    replace hms := hms.ev he9
    replace hev := hev.ext he9
    have hs9 : SlR (eProd (eInt .i64) (eProd (eInt .i64) (eProd (eInt .i64) (eInt .i64)))) w9 (fl [blk a7_l5, [b1], []]) (some ⟨b9, 0, none⟩) 1 ([(15, if (IntKind.i64.wrap ((IntKind.i64.wrap ((IntKind.i64.wrap (1 + (Int.tmod (IntKind.i64.wrap ((Int.tmod p1 32) + 32)) 32))) - 1)) - i_s6_l5)) > 0 then (IntKind.i64.wrap ((IntKind.i64.wrap ((IntKind.i64.wrap (1 + (Int.tmod (IntKind.i64.wrap ((Int.tmod p1 32) + 32)) 32))) - 1)) - i_s6_l5)) else 0, 12, 400)] : List (Int × Int × Int × Int)) := ro_of_box hms0 hq9 hb9 rfl rfl (cells_at (cs := [.int .i64 15, .int .i64 (if (IntKind.i64.wrap ((IntKind.i64.wrap ((IntKind.i64.wrap (1 + (Int.tmod (IntKind.i64.wrap ((Int.tmod p1 32) + 32)) 32))) - 1)) - i_s6_l5)) > 0 then (IntKind.i64.wrap ((IntKind.i64.wrap ((IntKind.i64.wrap (1 + (Int.tmod (IntKind.i64.wrap ((Int.tmod p1 32) + 32)) 32))) - 1)) - i_s6_l5)) else 0), .int .i64 12, .int .i64 400]) (CellsOf.cons (c := [.int .i64 15, .int .i64 (if (IntKind.i64.wrap ((IntKind.i64.wrap ((IntKind.i64.wrap (1 + (Int.tmod (IntKind.i64.wrap ((Int.tmod p1 32) + 32)) 32))) - 1)) - i_s6_l5)) > 0 then (IntKind.i64.wrap ((IntKind.i64.wrap ((IntKind.i64.wrap (1 + (Int.tmod (IntKind.i64.wrap ((Int.tmod p1 32) + 32)) 32))) - 1)) - i_s6_l5)) else 0), .int .i64 12, .int .i64 400]) ⟨[.int .i64 15], [.int .i64 (if (IntKind.i64.wrap ((IntKind.i64.wrap ((IntKind.i64.wrap (1 + (Int.tmod (IntKind.i64.wrap ((Int.tmod p1 32) + 32)) 32))) - 1)) - i_s6_l5)) > 0 then (IntKind.i64.wrap ((IntKind.i64.wrap ((IntKind.i64.wrap (1 + (Int.tmod (IntKind.i64.wrap ((Int.tmod p1 32) + 32)) 32))) - 1)) - i_s6_l5)) else 0), .int .i64 12, .int .i64 400], rfl, rfl, ⟨[.int .i64 (if (IntKind.i64.wrap ((IntKind.i64.wrap ((IntKind.i64.wrap (1 + (Int.tmod (IntKind.i64.wrap ((Int.tmod p1 32) + 32)) 32))) - 1)) - i_s6_l5)) > 0 then (IntKind.i64.wrap ((IntKind.i64.wrap ((IntKind.i64.wrap (1 + (Int.tmod (IntKind.i64.wrap ((Int.tmod p1 32) + 32)) 32))) - 1)) - i_s6_l5)) else 0)], [.int .i64 12, .int .i64 400], rfl, rfl, ⟨[.int .i64 12], [.int .i64 400], rfl, rfl, rfl⟩⟩⟩ CellsOf.nil))
    clear hb9 hms0
    have hg := guard_l h
    replace h := guard_r h
    obtain ⟨a11, c11, w11, hr11, he11, hn11, hm11, hw11⟩ := own_appendN tel22 22 hj7_l5 (mem_flat 0 rfl) hs9 hg
    refine x_builtin (vs := [.slice a7_l5 (d7_l5).length c7_l5, .slice (some ⟨b9, 0, none⟩) (([(15, if (IntKind.i64.wrap ((IntKind.i64.wrap ((IntKind.i64.wrap (1 + (Int.tmod (IntKind.i64.wrap ((Int.tmod p1 32) + 32)) 32))) - 1)) - i_s6_l5)) > 0 then (IntKind.i64.wrap ((IntKind.i64.wrap ((IntKind.i64.wrap (1 + (Int.tmod (IntKind.i64.wrap ((Int.tmod p1 32) + 32)) 32))) - 1)) - i_s6_l5)) else 0, 12, 400)] : List (Int × Int × Int × Int))).length 1]) _ w11 rfl rfl rfl rfl (run_value _ _ _ _ hr11) ?_
    refine ⟨.inl rfl, ?_⟩
    have hst : Stp (fl [blk a7_l5, [b1], []]) w9 (fl [blk a11, [b1], []]) w11 := Stp.upd 0 he11 rfl (fun b hb => (hn11 b hb).1)
    replace hb1 := he11.box hb1 (hms.apart 1 0 rfl rfl rfl _ (List.mem_singleton.2 rfl))
    replace hs9 := hs9.step hst
    replace hms : MS w11 [blk a11, [b1], []] := hms.upd 0 he11 rfl hn11
    have hfr2 : FR w.heap.size [blk a11, [b1]] := hfr.upd 0 rfl hev.size (fun b hb => (hn11 b hb).1)
    replace hev := hev.then he11 (fun b hb => .inr (hfr.at 0 rfl b hb))
    replace hfr := hfr2
    clear hfr2
    replace hj7_l5 := hw11 (fl [blk a11, [b1], []]) hst.new
    clear hw11
    refine x_fieldAddr (xv := .pointer (some ⟨b1, 0, none⟩)) (.pointer (some ⟨b1, 0, none⟩)) rfl rfl rfl (reads_field tfld24_0 _ _) ?_
    obtain ⟨w12, hr12, hb12, he12⟩ := store_box 0 (.slice a11 ((d7_l5 ++ ([(15, if (IntKind.i64.wrap ((IntKind.i64.wrap ((IntKind.i64.wrap (1 + (Int.tmod (IntKind.i64.wrap ((Int.tmod p1 32) + 32)) 32))) - 1)) - i_s6_l5)) > 0 then (IntKind.i64.wrap ((IntKind.i64.wrap ((IntKind.i64.wrap (1 + (Int.tmod (IntKind.i64.wrap ((Int.tmod p1 32) + 32)) 32))) - 1)) - i_s6_l5)) else 0, 12, 400)] : List (Int × Int × Int × Int)))).length c11) #[.slice a11 ((d7_l5 ++ ([(15, if (IntKind.i64.wrap ((IntKind.i64.wrap ((IntKind.i64.wrap (1 + (Int.tmod (IntKind.i64.wrap ((Int.tmod p1 32) + 32)) 32))) - 1)) - i_s6_l5)) > 0 then (IntKind.i64.wrap ((IntKind.i64.wrap ((IntKind.i64.wrap (1 + (Int.tmod (IntKind.i64.wrap ((Int.tmod p1 32) + 32)) 32))) - 1)) - i_s6_l5)) else 0, 12, 400)] : List (Int × Int × Int × Int)))).length c11, .int .i64 12] tcell22 hb1 rfl rfl rfl
    refine x_store w12 (xv := .pointer (some ⟨b1, 0, none⟩)) (yv := .slice a11 ((d7_l5 ++ ([(15, if (IntKind.i64.wrap ((IntKind.i64.wrap ((IntKind.i64.wrap (1 + (Int.tmod (IntKind.i64.wrap ((Int.tmod p1 32) + 32)) 32))) - 1)) - i_s6_l5)) > 0 then (IntKind.i64.wrap ((IntKind.i64.wrap ((IntKind.i64.wrap (1 + (Int.tmod (IntKind.i64.wrap ((Int.tmod p1 32) + 32)) 32))) - 1)) - i_s6_l5)) else 0, 12, 400)] : List (Int × Int × Int × Int)))).length c11) rfl rfl rfl rfl hr12 ?_
    refine ⟨.inl rfl, ?_⟩
    have hst := Stp.ev' (ls := [blk a11, [b1], []]) he12 (mem_flat 1 rfl)
    replace hj7_l5 := hj7_l5.step hst he12 (hms.apart 0 1 rfl rfl rfl)
    replace hs9 := hs9.step hst
    replace hms := hms.ev he12
    replace hev := hev.then he12 (fun b hb => .inr (hfr.at 1 rfl b hb))
    replace hb1 := hb12
    refine x_end rfl ?_
    refine k_block ?_
    refine k_then ?_
    refine c_plain ?_
    refine x_pure 3 [(25, .int .i64 i_s6_l5), (26, .int .i64 (IntKind.i64.wrap (i_s6_l5 + 1))), (6, .int .i64 (IntKind.i64.wrap (i_s6_l5 + 1)))] _ _ _ (by kernel_rfl) ?_
    refine x_end rfl ?_
    have hx := some_inj h
    subst hx
    exact k_then ⟨(m5, (d7_l5 ++ ([(15, if (IntKind.i64.wrap ((IntKind.i64.wrap ((IntKind.i64.wrap (1 + (Int.tmod (IntKind.i64.wrap ((Int.tmod p1 32) + 32)) 32))) - 1)) - i_s6_l5)) > 0 then (IntKind.i64.wrap ((IntKind.i64.wrap ((IntKind.i64.wrap (1 + (Int.tmod (IntKind.i64.wrap ((Int.tmod p1 32) + 32)) 32))) - 1)) - i_s6_l5)) else 0, 12, 400)] : List (Int × Int × Int × Int))), IntKind.i64.wrap (i_s6_l5 + 1), a11, c11), ⟨rfl, rfl, rfl, rfl, trivial⟩, ⟨hn5, hev, hms, hfr, hj7_l5, hb1⟩, Nat.lt_succ_self _⟩
  replace h := ite_f hb h
  refine c_exit ?_
  refine k_then_exit ?_
  have hx := some_inj h
  subst hx
  have hy := some_inj hn5
  subst hy
  replace h := h5
  refine k_then_exit ?_
  refine k_block_in ?_
  refine k_then ?_
  refine c_norm [(0, .int .i64 (IntKind.i64.wrap (95 + (Int.tmod (IntKind.i64.wrap ((Int.tmod p0 3) + 3)) 3)))), (5, .pointer (some ⟨b1, 0, none⟩))] ⟨rfl, rfl, trivial⟩ (fun J => ?_)
  refine c_seq (c_plain ?_)
  refine x_load (xv := .pointer (some ⟨b1, 0, none⟩)) (.agg #[.slice a7_l5 (d7_l5).length c7_l5, .int .i64 12]) rfl rfl rfl (reads_boxagg 0 [.slice a7_l5 (d7_l5).length c7_l5, .int .i64 12] tagg24 hb1 nn rfl) ?_
  obtain ⟨x13, hx, h⟩ := bind_some h
  have hpk : MS wl5 ([] ++ [[b1], []]) := hms.pick [some 1, some 2] _ rfl
  have hsb0 : ∀ x ∈ fl ([] ++ [[b1], []]), x ∈ fl [blk a7_l5, [b1], []] := pick_sub [some 1, some 2] _ rfl
  have hsb : ∀ x ∈ fl ([] ++ [(fl [[b1], []])]), x ∈ fl [blk a7_l5, [b1], []] := fun x hx => hsb0 x (fl_unfold x hx)
  have hcall := job_Levels_w a7_l5 c7_l5 d7_l5 12 _ wl5 (fl [[b1], []]) (MS.fold (P := []) hpk) (hj7_l5.ro hsb (fun b hb hb2 => pick_out hms 0 rfl [some 1, some 2] ([] ++ [[b1], []]) rfl rfl b hb (fl_unfold b hb2))) hx
  refine x_call 10 #[] #[] [.agg #[.slice a7_l5 (d7_l5).length c7_l5, .int .i64 12]] _ rfl rfl rfl rfl hcall ?_
  rintro v w14 ⟨a0_14, c0_14, rfl, he14, hmn14, hfn14, hf14_1⟩
  clear hcall hx
  refine ⟨.inl rfl, ?_⟩
  have hpk2 : MS wl5 ([] ++ [blk a7_l5, [b1], []]) := hms.pick [some 0, some 1, some 2] _ rfl
  have hsb2 : ∀ x ∈ fl ([] ++ [blk a7_l5, [b1], []]), x ∈ fl [blk a7_l5, [b1], []] := pick_sub [some 0, some 1, some 2] _ rfl
  have hst0 := Stp.call (LS := [blk a7_l5, [b1], []]) (res := [blk a0_14]) (par := []) (R := [blk a7_l5, [b1], []]) he14 (fun b hb => hsb2 b (fl_left' (P := []) b hb)) hfn14 (NP.init _ _) (fun x hx => hsb2 x (fl_right' (P := []) x hx))
  have hsn : ∀ x ∈ fl [blk a0_14, blk a7_l5, [b1], []], x ∈ fl ([blk a0_14] ++ ([] ++ [blk a7_l5, [b1], []])) := pick_sub [some 0, some 1, some 2, some 3] _ rfl
  have hst := hst0.res hsn
  replace hb1 := he14.box hb1 ((MS.outs (P := []) hpk2 1 rfl) _ (List.mem_singleton.2 rfl))
  replace hj7_l5 := hj7_l5.step hst he14 (MS.outs (P := []) hpk2 0 rfl)
  replace hms : MS w14 [blk a0_14, blk a7_l5, [b1], []] := (MS.call (P := []) (R := [blk a7_l5, [b1], []]) (res := [blk a0_14]) (par := []) hpk2 he14 hmn14 hfn14 (NP.init _ _)).pick [some 0, some 1, some 2, some 3] _ rfl
  have hfr2 : FR w.heap.size [blk a0_14, blk a7_l5, [b1]] := (FR.cons (fun b hb => Nat.le_trans hev.size (hfn14.at 0 rfl b hb)) (FR.cons (hfr.at 0 rfl) (FR.cons (hfr.at 1 rfl) (FR.nil _))))
  replace hev := hev.ext he14
  replace hfr := hfr2
  clear hfr2
  replace hf14_1 := OwnS.plain (M' := fl [blk a0_14, blk a7_l5, [b1], []]) (plain_int _) hf14_1
  clear hpk hsb hsb0 hpk2 hsb2 hst0 hsn hst
  have hpk : MS w14 [blk a7_l5, [b1], []] := hms.pick [some 1, some 2, some 3] _ rfl
  have hsu : ∀ x ∈ fl [blk a7_l5, [b1], []], x ∈ fl [blk a0_14, blk a7_l5, [b1], []] := pick_sub [some 1, some 2, some 3] _ rfl
  replace hj7_l5 := hj7_l5.sub hsu
  replace hf14_1 := hf14_1.ro hsu (pick_out hms 0 rfl [some 1, some 2, some 3] [blk a7_l5, [b1], []] rfl rfl)
  replace hms := hpk
  replace hfr : FR w.heap.size [blk a7_l5, [b1]] := hfr.pick [some 1, some 2] _ rfl
  clear hpk hsu
  refine x_pure 5 [(38, .tuple #[.slice a0_14 (x13.1).length c0_14, .int .i64 x13.2]), (41, .slice a0_14 (x13.1).length c0_14), (42, .int .i64 x13.2), (7, .slice a0_14 (x13.1).length c0_14), (8, .int .i64 x13.2)] _ _ _ (by kernel_rfl) ?_
  refine x_end rfl (k_then ?_)
  refine c_seq ?_
  refine c_seq (c_plain ?_)
  refine x_pure 2 [(43, .int .i64 (IntKind.i64.wrap (95 + (Int.tmod (IntKind.i64.wrap ((Int.tmod p0 3) + 3)) 3)))), (44, .bool (decide ((IntKind.i64.wrap (95 + (Int.tmod (IntKind.i64.wrap ((Int.tmod p0 3) + 3)) 3))) > 96)))] _ _ _ (by kernel_rfl) ?_
  refine x_end rfl (k_then ?_)
  refine c_cond (decide ((IntKind.i64.wrap (95 + (Int.tmod (IntKind.i64.wrap ((Int.tmod p0 3) + 3)) 3))) > 96)) rfl (fun hb => ?_) (fun hb => ?_)
  · replace h := ite_t hb h
    refine c_seq (c_plain ?_)
    refine x_pure 3 [(45, .int .i64 x13.2), (46, .bool (x13.2 == 3)), (47, .bool (x13.2 == 3))] _ _ _ (by kernel_rfl) ?_
    refine x_split 47 (x13.2 == 3) rfl (fun hb => ?_) (fun hb => ?_)
    · replace h := ite_t hb h
      refine x_load (xv := .pointer (some ⟨b1, 0, none⟩)) (.agg #[.slice a7_l5 (d7_l5).length c7_l5, .int .i64 12]) rfl rfl rfl (reads_boxagg 0 [.slice a7_l5 (d7_l5).length c7_l5, .int .i64 12] tagg24 hb1 nn rfl) ?_
      obtain ⟨x17, hx, h⟩ := bind_some h
      have hpk : MS w14 ([] ++ [[b1], []]) := hms.pick [some 1, some 2] _ rfl
      have hsb0 : ∀ x ∈ fl ([] ++ [[b1], []]), x ∈ fl [blk a7_l5, [b1], []] := pick_sub [some 1, some 2] _ rfl
      have hsb : ∀ x ∈ fl ([] ++ [(fl [[b1], []])]), x ∈ fl [blk a7_l5, [b1], []] := fun x hx => hsb0 x (fl_unfold x hx)
      have hcall := job_Valid_w a7_l5 c7_l5 d7_l5 12 _ w14 (fl [[b1], []]) (MS.fold (P := []) hpk) (hj7_l5.ro hsb (fun b hb hb2 => pick_out hms 0 rfl [some 1, some 2] ([] ++ [[b1], []]) rfl rfl b hb (fl_unfold b hb2))) hx
      refine x_call 11 #[] #[] [.agg #[.slice a7_l5 (d7_l5).length c7_l5, .int .i64 12]] _ rfl rfl rfl rfl hcall ?_
      rintro v w18 ⟨rfl, he18⟩
      clear hcall hx
      refine ⟨.inl rfl, ?_⟩
      have hst := Stp.ext (ls := [blk a7_l5, [b1], []]) he18
      replace hb1 := he18.box hb1 nn
      replace hj7_l5 := hj7_l5.step hst he18 nn2
      replace hf14_1 := hf14_1.step hst
      replace hms := hms.ev he18
      replace hev := hev.ext he18
      clear hpk hsb hsb0
      refine x_pure 3 [(50, .bool (x17 == 3)), (51, .bool (x17 == 3)), (52, .bool (x17 == 3))] _ _ _ (by kernel_rfl) ?_
      refine x_split 52 (x17 == 3) rfl (fun hb => ?_) (fun hb => ?_)
      · replace h := ite_t hb h
        refine x_pure 1 [(53, .slice a0_14 (x13.1).length c0_14)] _ _ _ (by kernel_rfl) ?_
        refine x_len (vs := [.slice a0_14 (x13.1).length c0_14]) (.int .i64 ((x13.1).length : Int)) rfl rfl rfl (reads_len tsl27 _ _ _ _ _) ?_
        refine x_pure 3 [(55, .bool (((x13.1).length : Int) == 0)), (56, .bool (((x13.1).length : Int) == 0)), (57, .bool (((x13.1).length : Int) == 0))] _ _ _ (by kernel_rfl) ?_
        refine x_split 57 (((x13.1).length : Int) == 0) rfl (fun hb => ?_) (fun hb => ?_)
        · replace h := ite_t hb h
          obtain ⟨x19, hx, h⟩ := bind_some h
          have hcall := law11_sane_w _ w18 hx
          refine x_call 12 #[] #[] [] _ rfl rfl rfl rfl hcall ?_
          rintro v w20 ⟨rfl, he20⟩
          clear hcall hx
          refine ⟨.inl rfl, ?_⟩
          have hst := Stp.ext (ls := [blk a7_l5, [b1], []]) he20
          replace hb1 := he20.box hb1 nn
          replace hj7_l5 := hj7_l5.step hst he20 nn2
          replace hf14_1 := hf14_1.step hst
          replace hms := hms.ev he20
          replace hev := hev.ext he20
          refine x_pure 2 [(59, .bool x19), (4, .bool x19)] _ _ _ (by kernel_rfl) ?_
          refine x_end rfl (k_then ?_)
          refine c_norm [(4, .bool x19)] ⟨rfl, trivial⟩ (fun J => ?_)
          refine c_ret ?_
          refine k_then_ret ?_
          refine r_ret (r_vals [.bool x19] ⟨rfl, trivial⟩ ?_)
          have hx := some_inj h
          subst hx
          exact ⟨rfl, hev⟩
        replace h := ite_f hb h
        refine x_pure 3 [(58, undef), (59, .bool false), (4, .bool false)] _ _ _ (by kernel_rfl) ?_
        refine x_end rfl (k_then ?_)
        refine c_norm [(4, .bool false)] ⟨rfl, trivial⟩ (fun J => ?_)
        refine c_ret ?_
        refine k_then_ret ?_
        refine r_ret (r_vals [.bool false] ⟨rfl, trivial⟩ ?_)
        have hx := some_inj h
        subst hx
        exact ⟨rfl, hev⟩
      replace h := ite_f hb h
      refine x_pure 8 [(53, undef), (54, undef), (55, undef), (56, .bool false), (57, .bool false), (58, undef), (59, .bool false), (4, .bool false)] _ _ _ (by kernel_rfl) ?_
      refine x_end rfl (k_then ?_)
      refine c_norm [(4, .bool false)] ⟨rfl, trivial⟩ (fun J => ?_)
      refine c_ret ?_
      refine k_then_ret ?_
      refine r_ret (r_vals [.bool false] ⟨rfl, trivial⟩ ?_)
      have hx := some_inj h
      subst hx
      exact ⟨rfl, hev⟩
    replace h := ite_f hb h
    refine x_pure 13 [(48, undef), (49, undef), (50, undef), (51, .bool false), (52, .bool false), (53, undef), (54, undef), (55, undef), (56, .bool false), (57, .bool false), (58, undef), (59, .bool false), (4, .bool false)] _ _ _ (by kernel_rfl) ?_
    refine x_end rfl (k_then ?_)
    refine c_norm [(4, .bool false)] ⟨rfl, trivial⟩ (fun J => ?_)
    refine c_ret ?_
    refine k_then_ret ?_
    refine r_ret (r_vals [.bool false] ⟨rfl, trivial⟩ ?_)
    have hx := some_inj h
    subst hx
    exact ⟨rfl, hev⟩
  replace h := ite_f hb h
  refine c_skip ?_
  refine k_then ?_
  refine c_seq ?_
  refine c_seq (c_plain ?_)
  refine x_pure 3 [(60, .int .i64 x13.2), (61, .bool (x13.2 != 0)), (62, .bool (x13.2 != 0))] _ _ _ (by kernel_rfl) ?_
  refine x_split 62 (x13.2 != 0) rfl (fun hb => ?_) (fun hb => ?_)
  · replace h := ite_t hb h
    refine x_pure 5 [(63, undef), (64, undef), (65, undef), (66, undef), (67, .bool true)] _ _ _ (by kernel_rfl) ?_
    refine x_end rfl (k_then ?_)
    refine c_norm [(5, .pointer (some ⟨b1, 0, none⟩)), (7, .slice a0_14 (x13.1).length c0_14), (67, .bool true)] ⟨rfl, rfl, rfl, trivial⟩ (fun J => ?_)
    refine c_true rfl ?_
    refine c_seq (c_plain ?_)
    refine x_pure 1 [(4, .bool false)] _ _ _ (by kernel_rfl) ?_
    refine x_end rfl (k_then ?_)
    refine c_ret ?_
    refine k_then_ret ?_
    refine r_ret (r_vals [.bool false] ⟨rfl, trivial⟩ ?_)
    have hx := some_inj h
    subst hx
    exact ⟨rfl, hev⟩
  replace h := ite_f hb h
  refine x_pure 1 [(63, .slice a0_14 (x13.1).length c0_14)] _ _ _ (by kernel_rfl) ?_
  refine x_len (vs := [.slice a0_14 (x13.1).length c0_14]) (.int .i64 ((x13.1).length : Int)) rfl rfl rfl (reads_len tsl27 _ _ _ _ _) ?_
  refine x_pure 3 [(65, .int .i64 (IntKind.i64.wrap (95 + (Int.tmod (IntKind.i64.wrap ((Int.tmod p0 3) + 3)) 3)))), (66, .bool (((x13.1).length : Int) != (IntKind.i64.wrap (95 + (Int.tmod (IntKind.i64.wrap ((Int.tmod p0 3) + 3)) 3))))), (67, .bool (((x13.1).length : Int) != (IntKind.i64.wrap (95 + (Int.tmod (IntKind.i64.wrap ((Int.tmod p0 3) + 3)) 3)))))] _ _ _ (by kernel_rfl) ?_
  refine x_end rfl (k_then ?_)
  refine c_norm [(5, .pointer (some ⟨b1, 0, none⟩)), (7, .slice a0_14 (x13.1).length c0_14), (67, .bool (((x13.1).length : Int) != (IntKind.i64.wrap (95 + (Int.tmod (IntKind.i64.wrap ((Int.tmod p0 3) + 3)) 3)))))] ⟨rfl, rfl, rfl, trivial⟩ (fun J => ?_)
  refine c_cond (((x13.1).length : Int) != (IntKind.i64.wrap (95 + (Int.tmod (IntKind.i64.wrap ((Int.tmod p0 3) + 3)) 3)))) rfl (fun hb => ?_) (fun hb => ?_)
  · replace h := ite_t hb h
    refine c_seq (c_plain ?_)
    refine x_pure 1 [(4, .bool false)] _ _ _ (by kernel_rfl) ?_
    refine x_end rfl (k_then ?_)
    refine c_ret ?_
    refine k_then_ret ?_
    refine r_ret (r_vals [.bool false] ⟨rfl, trivial⟩ ?_)
    have hx := some_inj h
    subst hx
    exact ⟨rfl, hev⟩
  replace h := ite_f hb h
  refine c_skip ?_
  refine k_then ?_
  refine c_seq ?_
  refine c_seq (c_plain ?_)
  refine x_pure 1 [(68, .slice a0_14 (x13.1).length c0_14)] _ _ _ (by kernel_rfl) ?_
  refine x_len (vs := [.slice a0_14 (x13.1).length c0_14]) (.int .i64 ((x13.1).length : Int)) rfl rfl rfl (reads_len tsl27 _ _ _ _ _) ?_
  refine x_pure 1 [(70, .int .i64 0)] _ _ _ (by kernel_rfl) ?_
  refine x_end rfl (k_then ?_)
  refine c_block ?_
  obtain ⟨d22, hd22, h22⟩ := bind_some h
  obtain ⟨m22, hd22⟩ := loop_some hd22
  refine c_loop (loop_rule hmx (σ := Nat × Int × Option Addr) (fun s => match s with | (_, t70__s70_l22, a7_l22) => [(5, .pointer (some ⟨b1, 0, none⟩)), (68, .slice a0_14 (x13.1).length c0_14), (69, .int .i64 ((x13.1).length : Int)), (70, .int .i64 t70__s70_l22)]) (fun s w' => match s with | (m, t70__s70_l22, a7_l22) => loopN (law11_JobLimits_L22 d7_l5 x13) m t70__s70_l22 = some d22 ∧ Ev [] w w' ∧ MS w' [blk a7_l22, [b1], []] ∧ FR w.heap.size [blk a7_l22, [b1]] ∧ OwnS (eProd (eInt .i64) (eProd (eInt .i64) (eProd (eInt .i64) (eInt .i64)))) 26 w' (fl [blk a7_l22, [b1], []]) a7_l22 c7_l5 d7_l5 ∧ w'.heap[b1]? = some (.cells #[.slice a7_l22 (d7_l5).length c7_l5, .int .i64 12] 24 (0, 0)) ∧ SlR (eInt .i64) w' (fl [blk a7_l22, [b1], []]) a0_14 c0_14 x13.1) (fun s => s.1) (m22, 0, a7_l5) ⟨rfl, rfl, rfl, rfl, trivial⟩ ⟨hd22, hev, hms, hfr, hj7_l5, hb1, hf14_1⟩ ?_)
  rintro ⟨m22, t70__s70_l22, a7_l22⟩ J wl22 ⟨hn22, hev, hms, hfr, hj7_l5, hb1, hf14_1⟩
  rcases m22 with _ | m22
  · exact (loopN_zero hn22).elim
  obtain ⟨t22, h, hn22⟩ := bind_some hn22
  refine c_seq (c_plain ?_)
  refine x_pure 1 [(71, .bool (decide (t70__s70_l22 < ((x13.1).length : Int))))] _ _ _ (by kernel_rfl) ?_
  refine x_end rfl (k_then ?_)
  refine c_norm [(5, .pointer (some ⟨b1, 0, none⟩)), (68, .slice a0_14 (x13.1).length c0_14), (69, .int .i64 ((x13.1).length : Int)), (70, .int .i64 t70__s70_l22), (71, .bool (decide (t70__s70_l22 < ((x13.1).length : Int))))] ⟨rfl, rfl, rfl, rfl, rfl, trivial⟩ (fun J => ?_)
  refine c_seq ?_
  refine c_cond (decide (t70__s70_l22 < ((x13.1).length : Int))) rfl (fun hb => ?_) (fun hb => ?_)
  · replace h := ite_t hb h
    refine c_skip ?_
    refine k_then ?_
    refine c_seq ?_
    refine c_block ?_
    refine c_seq (c_plain ?_)
    refine x_pure 1 [(72, .int .i64 t70__s70_l22)] _ _ _ (by kernel_rfl) ?_
    obtain ⟨x24, hx24, h⟩ := bind_some h
    obtain ⟨ad24, cs24, hr24, hc24, hR⟩ := reads_index (Mo := []) tsl27 hf14_1 hx24
    obtain rfl := hR
    refine x_indexAddr (xv := .slice a0_14 (x13.1).length c0_14) (yv := .int .i64 t70__s70_l22) (.pointer (some ad24)) rfl rfl rfl rfl hr24 ?_
    refine x_load (xv := .pointer (some ad24)) (.int .i64 x24) rfl rfl rfl (reads_cell0 tcell3 hc24 (fun _ h => by cases h)) ?_
    refine x_pure 2 [(9, .int .i64 t70__s70_l22), (10, .int .i64 x24)] _ _ _ (by kernel_rfl) ?_
    refine x_end rfl (k_then ?_)
    refine c_seq (c_plain ?_)
    refine x_pure 1 [(75, .int .i64 x24)] _ _ _ (by kernel_rfl) ?_
    refine x_fieldAddr (xv := .pointer (some ⟨b1, 0, none⟩)) (.pointer (some ⟨b1, 0, none⟩)) rfl rfl rfl (reads_field tfld24_0 _ _) ?_
    refine x_load (xv := .pointer (some ⟨b1, 0, none⟩)) (.slice a7_l22 (d7_l5).length c7_l5) rfl rfl rfl (reads_box tcell22 hb1 nn 0 _ rfl) ?_
    refine x_pure 1 [(78, .int .i64 t70__s70_l22)] _ _ _ (by kernel_rfl) ?_
    obtain ⟨x26, hx26, h⟩ := bind_some h
    obtain ⟨g26, cs26, ha, hr26, hc26, hR⟩ := own_index (Mo := []) tsl22 hj7_l5 hx26
    subst ha
    obtain ⟨_, _, rfl, rfl, ⟨_, _, rfl, rfl, ⟨_, _, rfl, rfl, rfl⟩⟩⟩ := hR
    refine x_indexAddr (xv := .slice (some ⟨g26, 0, none⟩) (d7_l5).length c7_l5) (yv := .int .i64 t70__s70_l22) (.pointer (some ⟨g26, (Int.toNat t70__s70_l22) * (eProd (eInt .i64) (eProd (eInt .i64) (eProd (eInt .i64) (eInt .i64)))).n, none⟩)) rfl rfl rfl rfl hr26 ?_
    refine x_fieldAddr (xv := .pointer (some ⟨g26, (Int.toNat t70__s70_l22) * (eProd (eInt .i64) (eProd (eInt .i64) (eProd (eInt .i64) (eInt .i64)))).n, none⟩)) (.pointer (some ⟨g26, (Int.toNat t70__s70_l22) * (eProd (eInt .i64) (eProd (eInt .i64) (eProd (eInt .i64) (eInt .i64)))).n + 1, none⟩)) rfl rfl rfl (reads_field tfld26_1 _ _) ?_
    refine x_load (xv := .pointer (some ⟨g26, (Int.toNat t70__s70_l22) * (eProd (eInt .i64) (eProd (eInt .i64) (eProd (eInt .i64) (eInt .i64)))).n + 1, none⟩)) (.int .i64 x26.2.1) rfl rfl rfl (reads_cell tcell3 hc26 (fun _ h => by cases h) 1 _ rfl) ?_
    refine x_pure 1 [(82, .bool (x24 != x26.2.1))] _ _ _ (by kernel_rfl) ?_
    refine x_end rfl (k_then ?_)
    refine c_norm [(5, .pointer (some ⟨b1, 0, none⟩)), (68, .slice a0_14 (x13.1).length c0_14), (69, .int .i64 ((x13.1).length : Int)), (70, .int .i64 t70__s70_l22), (82, .bool (x24 != x26.2.1))] ⟨rfl, rfl, rfl, rfl, rfl, trivial⟩ (fun J => ?_)
    refine c_cond (x24 != x26.2.1) rfl (fun hb => ?_) (fun hb => ?_)
    · replace h := ite_t hb h
      refine c_seq (c_plain ?_)
      refine x_pure 1 [(4, .bool false)] _ _ _ (by kernel_rfl) ?_
      refine x_end rfl (k_then ?_)
      refine c_ret ?_
      refine k_block_ret ?_
      refine k_then_ret ?_
      have hx := some_inj h
      subst hx
      have hy := some_inj hn22
      subst hy
      replace h := h22
      refine k_then_ret ?_
      refine k_block_ret ?_
      refine k_then_ret ?_
      refine r_ret (r_vals [.bool false] ⟨rfl, trivial⟩ ?_)
      have hx := some_inj h
      subst hx
      exact ⟨rfl, hev⟩
    replace h := ite_f hb h
    refine c_skip ?_
    refine k_block ?_
    refine k_then ?_
    refine c_plain ?_
    refine x_pure 2 [(83, .int .i64 (IntKind.i64.wrap (t70__s70_l22 + 1))), (70, .int .i64 (IntKind.i64.wrap (t70__s70_l22 + 1)))] _ _ _ (by kernel_rfl) ?_
    refine x_end rfl ?_
    have hx := some_inj h
    subst hx
    exact k_then ⟨(m22, IntKind.i64.wrap (t70__s70_l22 + 1), (some ⟨g26, 0, none⟩)), ⟨rfl, rfl, rfl, rfl, trivial⟩, ⟨hn22, hev, hms, hfr, hj7_l5, hb1, hf14_1⟩, Nat.lt_succ_self _⟩
  replace h := ite_f hb h
  refine c_exit ?_
  refine k_then_exit ?_
  have hx := some_inj h
  subst hx
  have hy := some_inj hn22
  subst hy
  replace h := h22
  refine k_then_exit ?_
  refine k_block_in ?_
  refine k_then ?_
  refine c_norm [] trivial (fun J => ?_)
  refine c_seq (c_plain ?_)
  obtain ⟨x28, hx, h⟩ := bind_some h
  have hcall := law11_sane_w _ wl22 hx
  refine x_call 12 #[] #[] [] _ rfl rfl rfl rfl hcall ?_
  rintro v w29 ⟨rfl, he29⟩
  clear hcall hx
  refine ⟨.inl rfl, ?_⟩
  have hst := Stp.ext (ls := [blk a7_l22, [b1], []]) he29
  replace hb1 := he29.box hb1 nn
  replace hj7_l5 := hj7_l5.step hst he29 nn2
  replace hms := hms.ev he29
  replace hev := hev.ext he29
  refine x_pure 1 [(4, .bool x28)] _ _ _ (by kernel_rfl) ?_
  refine x_end rfl (k_then ?_)
  refine c_ret ?_
  refine r_ret (r_vals [.bool x28] ⟨rfl, trivial⟩ ?_)
  have hx := some_inj h
  subst hx
  exact ⟨rfl, hev⟩
end Go.Proofs.Ytacimonplnlmgaa
