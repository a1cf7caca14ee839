/- Walks, printed by program: each function returns what the partial function of the same name returns. Conditions: those of each theorem. -/
import Derived.Test.YtgdaanhiagoonaaGT
import Derived.Test.YtgdaanhiagoonaaGlaw13sane
import Derived.Test.YtgdaanhiagoonaaGleastcode
set_option linter.unusedVariables false
set_option linter.unusedSimpArgs false
set_option maxRecDepth 4000
namespace Go.Proofs.Ytgdaanhiagoonaa
open Go Go.V Go.Proofs
def law13_LeastcodeRounds_L30 (x20 : (Int × (List Int)) × Int) (s : Int) : Option (Step Int (Unit ⊕ Unit)) :=
match s with
| t63__s63_l30 =>
(if (decide (t63__s63_l30 < ((x20.1.2).length : Int))) = true then
((idx x20.1.2 t63__s63_l30).bind fun x32 =>
(if (x32 != 4095) = true then
some (.done (.inl ()))
else
some (.next (IntKind.i64.wrap (t63__s63_l30 + 1)))))
else
some (.done (.inr ())))

def law13_LeastcodeRounds_L14 (p0 : Int) (s : (List (Int × Int × Int × Int)) × Int) : Option (Step ((List (Int × Int × Int × Int)) × Int) (List (Int × Int × Int × Int))) :=
match s with
| (d8_l14, i_s6_l14) =>
(if (decide (i_s6_l14 < (IntKind.i64.wrap (1 + (Int.tmod (IntKind.i64.wrap ((Int.tmod p0 5) + 5)) 5))))) = true then
(if d8_l14.length + ([(0, 0, 12, 100)] : List (Int × Int × Int × Int)).length ≤ 4294967296 then
some (.next ((d8_l14 ++ ([(0, 0, 12, 100)] : List (Int × Int × Int × Int))), IntKind.i64.wrap (i_s6_l14 + 1)))
else none)
else
some (.done d8_l14))

def law13_LeastcodeRounds_J4 (p0 : Int) (p1 : Bool) (d8_j4 : List (Int × Int × Int × Int)) : Option Bool :=
((loop (law13_LeastcodeRounds_L14 p0) (d8_j4, 0)).bind fun d => match d with
| d8_x14 => ((leastcode_Least d8_x14 12).bind fun x20 =>
(if p1 = true then
(if (x20.2 == 15) = true then
((law13_sane).bind fun x27 =>
some x27)
else
some false)
else
(if (x20.2 != 0) = true then
some false
else
(if (x20.1.1 != 12) = true then
some false
else
(if (((x20.1.2).length : Int) != (IntKind.i64.wrap (1 + (Int.tmod (IntKind.i64.wrap ((Int.tmod p0 5) + 5)) 5)))) = true then
some false
else
((loop (law13_LeastcodeRounds_L30 x20) 0).bind fun d => match d with
| (.inl _) => some false
| (.inr _) => ((law13_sane).bind fun x34 =>
some x34))))))))

def law13_LeastcodeRounds (p0 : Int) (p1 : Bool) : Option Bool :=
(if p1 = true then
(if ([] : List (Int × Int × Int × Int)).length + ([(0, 1, 0, 100)] : List (Int × Int × Int × Int)).length ≤ 4294967296 then
law13_LeastcodeRounds_J4 p0 p1 (([] : List (Int × Int × Int × Int)) ++ ([(0, 1, 0, 100)] : List (Int × Int × Int × Int)))
else none)
else
law13_LeastcodeRounds_J4 p0 p1 ([] : List (Int × Int × Int × Int)))

theorem law13_LeastcodeRounds_w (p0 : Int) (p1 : Bool) (r : Bool) (w : World) (h : law13_LeastcodeRounds p0 p1 = some r) : CallVC Try.prog 3 [.int .i64 p0, .bool p1] w fun v w' => v = .bool r ∧ Ev [] w w' := by
  refine calls_vc hmx Try.func3 (by kernel_rfl) rfl (rs := [.tmp 4]) rfl (by kernel_rfl) (args := [.int .i64 p0, .bool p1]) rfl ?_
  have hev : Ev [] w w := Ev.refl _ _
  have hms : MS w [[]] := ⟨List.pairwise_singleton _ _, fun l hl b hb => by simp only [List.mem_singleton] at hl; subst hl; cases hb⟩
  have hfr : FR w.heap.size [] := FR.nil _
  refine c_seq (c_plain ?_)
  refine x_pure 1 [(4, .bool false)] _ _ _ (by kernel_rfl) ?_
  refine x_end rfl (k_then ?_)
  refine c_seq (c_plain ?_)
  refine x_pure 6 [(11, .int .i64 p0), (12, .int .i64 (Int.tmod p0 5)), (13, .int .i64 (IntKind.i64.wrap ((Int.tmod p0 5) + 5))), (14, .int .i64 (Int.tmod (IntKind.i64.wrap ((Int.tmod p0 5) + 5)) 5)), (15, .int .i64 (IntKind.i64.wrap (1 + (Int.tmod (IntKind.i64.wrap ((Int.tmod p0 5) + 5)) 5)))), (0, .int .i64 (IntKind.i64.wrap (1 + (Int.tmod (IntKind.i64.wrap ((Int.tmod p0 5) + 5)) 5))))] _ _ _ (by kernel_rfl) ?_
  refine x_end rfl (k_then ?_)
  refine c_seq (c_plain ?_)
  refine x_build (vs := [(1, .int .i64 12)]) (.agg #[.slice none 0 0, .int .i64 12]) rfl rfl rfl (fun _ _ => by kernel_rfl) ?_
  refine x_alloc (z := .agg #[.slice none 0 0, .int .i64 0]) rfl rfl (by kernel_rfl) (fun b1 w1 hq1 hb1 he1 hz1 => ?_)
  replace hb1 : w1.heap[b1]? = some (.cells #[.slice none 0 0, .int .i64 0] 24 (0, 0)) := hb1
  refine ⟨.inl rfl, ?_⟩
  replace hms := hms.box he1 hq1 hb1
  replace hfr := hfr.box hev.size hq1
  replace hev := hev.ext he1
  obtain ⟨w3, hr3, hb3, he3⟩ := store_boxagg 0 [.slice none 0 0, .int .i64 12] #[.slice none 0 0, .int .i64 12] tagg24 hb1 rfl rfl rfl
  refine x_store w3 (xv := .pointer (some ⟨b1, 0, none⟩)) (yv := .agg #[.slice none 0 0, .int .i64 12]) rfl rfl rfl rfl hr3 ?_
  refine ⟨.inl rfl, ?_⟩
  replace hms := hms.ev he3
  replace hev := hev.then he3 (fun b hb => .inr (hfr.at 0 rfl b hb))
  replace hb1 := hb3
  refine x_end rfl (k_then ?_)
  refine c_join (σ := (List (Int × Int × Int × Int)) × Option Addr × Nat) (fun s => match s with | (d8_j4, a8_j4, c8_j4) => [(0, .int .i64 (IntKind.i64.wrap (1 + (Int.tmod (IntKind.i64.wrap ((Int.tmod p0 5) + 5)) 5)))), (1, .bool p1), (5, .pointer (some ⟨b1, 0, none⟩))]) (fun s w' => match s with | (d8_j4, a8_j4, c8_j4) => law13_LeastcodeRounds_J4 p0 p1 d8_j4 = some r ∧ Ev [] w w' ∧ MS w' [blk a8_j4, [b1], []] ∧ FR w.heap.size [blk a8_j4, [b1]] ∧ OwnS (eProd (eInt .i64) (eProd (eInt .i64) (eProd (eInt .i64) (eInt .i64)))) 26 w' (fl [blk a8_j4, [b1], []]) a8_j4 c8_j4 d8_j4 ∧ w'.heap[b1]? = some (.cells #[.slice a8_j4 (d8_j4).length c8_j4, .int .i64 12] 24 (0, 0))) ?_ ?_
  · refine c_seq (c_plain ?_)
    refine x_pure 1 [(17, .bool p1)] _ _ _ (by kernel_rfl) ?_
    refine x_end rfl (k_then ?_)
    refine c_cond p1 rfl (fun hb => ?_) (fun hb => ?_)
    · replace h := ite_t hb h
      refine c_plain ?_
      refine x_fieldAddr (xv := .pointer (some ⟨b1, 0, none⟩)) (.pointer (some ⟨b1, 0, none⟩)) rfl rfl rfl (reads_field tfld24_0 _ _) ?_
      refine x_load (xv := .pointer (some ⟨b1, 0, none⟩)) (.slice none 0 0) rfl rfl rfl (reads_box tcell22 hb1 nn 0 _ rfl) ?_
      refine x_build (vs := [(1, .int .i64 1), (3, .int .i64 100)]) (.agg #[.int .i64 0, .int .i64 1, .int .i64 0, .int .i64 100]) rfl rfl rfl (fun _ _ => by kernel_rfl) ?_
      refine x_buildSlice (vs := [(0, .agg #[.int .i64 0, .int .i64 1, .int .i64 0, .int .i64 100])]) #[.int .i64 0, .int .i64 1, .int .i64 0, .int .i64 100] 26 rfl rfl rfl (by kernel_rfl) (fun b5 w5 hq5 hb5 he5 hz5 => ?_)
      refine ⟨.inl rfl, ?_⟩
      have hms0 := hms
      replace hb1 := he5.box hb1 nn
      replace hms := hms.ev he5
      replace hev := hev.ext he5
      have hs5 : SlR (eProd (eInt .i64) (eProd (eInt .i64) (eProd (eInt .i64) (eInt .i64)))) w5 (fl [[b1], []]) (some ⟨b5, 0, none⟩) 1 ([(0, 1, 0, 100)] : List (Int × Int × Int × Int)) := ro_of_box hms0 hq5 hb5 rfl rfl (cells_at (cs := [.int .i64 0, .int .i64 1, .int .i64 0, .int .i64 100]) (CellsOf.cons (c := [.int .i64 0, .int .i64 1, .int .i64 0, .int .i64 100]) ⟨[.int .i64 0], [.int .i64 1, .int .i64 0, .int .i64 100], rfl, rfl, ⟨[.int .i64 1], [.int .i64 0, .int .i64 100], rfl, rfl, ⟨[.int .i64 0], [.int .i64 100], rfl, rfl, rfl⟩⟩⟩ CellsOf.nil))
      clear hb5 hms0
      have hst := Stp.push (ls := [[b1], []]) (l := blk none) (Ev.refl [] w5) (fun _ h => by cases h) (fun _ h => by cases h)
      replace hb1 := (Ev.refl [] _).box hb1 nn
      replace hs5 := hs5.step hst
      replace hms := hms.push (l := blk none) (Ev.refl [] _) (fun _ h => by cases h)
      replace hfr := hfr.push (l := blk none) (fun _ h => by cases h)
      have ho7 := OwnS.nil (eProd (eInt .i64) (eProd (eInt .i64) (eProd (eInt .i64) (eInt .i64)))) 26 w5 (fl [blk none, [b1], []])
      have hg := guard_l h
      replace h := guard_r h
      obtain ⟨a9, c9, w9, hr9, he9, hn9, hm9, hw9⟩ := own_appendN tel22 22 ho7 (mem_flat 0 rfl) hs5 hg
      refine x_builtin (vs := [.slice none (([] : List (Int × Int × Int × Int))).length 0, .slice (some ⟨b5, 0, none⟩) (([(0, 1, 0, 100)] : List (Int × Int × Int × Int))).length 1]) _ w9 rfl rfl rfl rfl (run_value _ _ _ _ hr9) ?_
      refine ⟨.inl rfl, ?_⟩
      have hst : Stp (fl [blk none, [b1], []]) w5 (fl [blk a9, [b1], []]) w9 := Stp.upd 0 he9 rfl (fun b hb => (hn9 b hb).1)
      replace hb1 := he9.box hb1 (hms.apart 1 0 rfl rfl rfl _ (List.mem_singleton.2 rfl))
      replace hs5 := hs5.step hst
      replace hms : MS w9 [blk a9, [b1], []] := hms.upd 0 he9 rfl hn9
      have hfr2 : FR w.heap.size [blk a9, [b1]] := hfr.upd 0 rfl hev.size (fun b hb => (hn9 b hb).1)
      replace hev := hev.then he9 (fun b hb => .inr (hfr.at 0 rfl b hb))
      replace hfr := hfr2
      clear hfr2
      replace ho7 := hw9 (fl [blk a9, [b1], []]) hst.new
      clear hw9
      refine x_fieldAddr (xv := .pointer (some ⟨b1, 0, none⟩)) (.pointer (some ⟨b1, 0, none⟩)) rfl rfl rfl (reads_field tfld24_0 _ _) ?_
      obtain ⟨w10, hr10, hb10, he10⟩ := store_box 0 (.slice a9 ((([] : List (Int × Int × Int × Int)) ++ ([(0, 1, 0, 100)] : List (Int × Int × Int × Int)))).length c9) #[.slice a9 ((([] : List (Int × Int × Int × Int)) ++ ([(0, 1, 0, 100)] : List (Int × Int × Int × Int)))).length c9, .int .i64 12] tcell22 hb1 rfl rfl rfl
      refine x_store w10 (xv := .pointer (some ⟨b1, 0, none⟩)) (yv := .slice a9 ((([] : List (Int × Int × Int × Int)) ++ ([(0, 1, 0, 100)] : List (Int × Int × Int × Int)))).length c9) rfl rfl rfl rfl hr10 ?_
      refine ⟨.inl rfl, ?_⟩
      have hst := Stp.ev' (ls := [blk a9, [b1], []]) he10 (mem_flat 1 rfl)
      replace hs5 := hs5.step hst
      replace ho7 := ho7.step hst he10 (hms.apart 0 1 rfl rfl rfl)
      replace hms := hms.ev he10
      replace hev := hev.then he10 (fun b hb => .inr (hfr.at 1 rfl b hb))
      replace hb1 := hb10
      refine x_end rfl ?_
      exact k_then ⟨((([] : List (Int × Int × Int × Int)) ++ ([(0, 1, 0, 100)] : List (Int × Int × Int × Int))), a9, c9), ⟨rfl, rfl, rfl, trivial⟩, h, hev, hms, hfr, ho7, hb1⟩
    replace h := ite_f hb h
    refine c_skip ?_
    replace hb1 := (Ev.refl [] _).box hb1 nn
    replace hms := hms.push (l := blk none) (Ev.refl [] _) (fun _ h => by cases h)
    replace hfr := hfr.push (l := blk none) (fun _ h => by cases h)
    have ho11 := OwnS.nil (eProd (eInt .i64) (eProd (eInt .i64) (eProd (eInt .i64) (eInt .i64)))) 26 w3 (fl [blk none, [b1], []])
    exact k_then ⟨(([] : List (Int × Int × Int × Int)), none, 0), ⟨rfl, rfl, rfl, trivial⟩, h, hev, hms, hfr, ho11, hb1⟩
  rintro ⟨d8_j4, a8_j4, c8_j4⟩ J wj4 ⟨h, hev, hms, hfr, hj8_j4, hb1⟩
  refine c_seq ?_
  refine c_seq (c_plain ?_)
  refine x_pure 1 [(6, .int .i64 0)] _ _ _ (by kernel_rfl) ?_
  refine x_end rfl (k_then ?_)
  refine c_norm [(0, .int .i64 (IntKind.i64.wrap (1 + (Int.tmod (IntKind.i64.wrap ((Int.tmod p0 5) + 5)) 5)))), (1, .bool p1), (5, .pointer (some ⟨b1, 0, none⟩)), (6, .int .i64 0)] ⟨rfl, rfl, rfl, rfl, trivial⟩ (fun J => ?_)
  refine c_block ?_
  obtain ⟨d14, hd14, h14⟩ := bind_some h
  obtain ⟨m14, hd14⟩ := loop_some hd14
  refine c_loop (loop_rule hmx (σ := Nat × (List (Int × Int × Int × Int)) × Int × Option Addr × Nat) (fun s => match s with | (_, d8_l14, i_s6_l14, a8_l14, c8_l14) => [(0, .int .i64 (IntKind.i64.wrap (1 + (Int.tmod (IntKind.i64.wrap ((Int.tmod p0 5) + 5)) 5)))), (1, .bool p1), (5, .pointer (some ⟨b1, 0, none⟩)), (6, .int .i64 i_s6_l14)]) (fun s w' => match s with | (m, d8_l14, i_s6_l14, a8_l14, c8_l14) => loopN (law13_LeastcodeRounds_L14 p0) m (d8_l14, i_s6_l14) = some d14 ∧ Ev [] w w' ∧ MS w' [blk a8_l14, [b1], []] ∧ FR w.heap.size [blk a8_l14, [b1]] ∧ OwnS (eProd (eInt .i64) (eProd (eInt .i64) (eProd (eInt .i64) (eInt .i64)))) 26 w' (fl [blk a8_l14, [b1], []]) a8_l14 c8_l14 d8_l14 ∧ w'.heap[b1]? = some (.cells #[.slice a8_l14 (d8_l14).length c8_l14, .int .i64 12] 24 (0, 0))) (fun s => s.1) (m14, d8_j4, 0, a8_j4, c8_j4) ⟨rfl, rfl, rfl, rfl, trivial⟩ ⟨hd14, hev, hms, hfr, hj8_j4, hb1⟩ ?_)
  rintro ⟨m14, d8_l14, i_s6_l14, a8_l14, c8_l14⟩ J wl14 ⟨hn14, hev, hms, hfr, hj8_j4, hb1⟩
  rcases m14 with _ | m14
  · exact (loopN_zero hn14).elim
  obtain ⟨t14, h, hn14⟩ := bind_some hn14
  refine c_seq ?_
  refine c_seq (c_plain ?_)
  refine x_pure 3 [(24, .int .i64 i_s6_l14), (25, .int .i64 (IntKind.i64.wrap (1 + (Int.tmod (IntKind.i64.wrap ((Int.tmod p0 5) + 5)) 5)))), (26, .bool (decide (i_s6_l14 < (IntKind.i64.wrap (1 + (Int.tmod (IntKind.i64.wrap ((Int.tmod p0 5) + 5)) 5))))))] _ _ _ (by kernel_rfl) ?_
  refine x_end rfl (k_then ?_)
  refine c_norm [(0, .int .i64 (IntKind.i64.wrap (1 + (Int.tmod (IntKind.i64.wrap ((Int.tmod p0 5) + 5)) 5)))), (1, .bool p1), (5, .pointer (some ⟨b1, 0, none⟩)), (6, .int .i64 i_s6_l14), (26, .bool (decide (i_s6_l14 < (IntKind.i64.wrap (1 + (Int.tmod (IntKind.i64.wrap ((Int.tmod p0 5) + 5)) 5))))))] ⟨rfl, rfl, rfl, rfl, rfl, trivial⟩ (fun J => ?_)
  refine c_cond (decide (i_s6_l14 < (IntKind.i64.wrap (1 + (Int.tmod (IntKind.i64.wrap ((Int.tmod p0 5) + 5)) 5))))) rfl (fun hb => ?_) (fun hb => ?_)
  · replace h := ite_t hb h
    refine c_skip ?_
    refine k_then ?_
    refine c_seq ?_
    refine c_block ?_
    refine c_plain ?_
    refine x_fieldAddr (xv := .pointer (some ⟨b1, 0, none⟩)) (.pointer (some ⟨b1, 0, none⟩)) rfl rfl rfl (reads_field tfld24_0 _ _) ?_
    refine x_load (xv := .pointer (some ⟨b1, 0, none⟩)) (.slice a8_l14 (d8_l14).length c8_l14) rfl rfl rfl (reads_box tcell22 hb1 nn 0 _ rfl) ?_
    refine x_build (vs := [(2, .int .i64 12), (3, .int .i64 100)]) (.agg #[.int .i64 0, .int .i64 0, .int .i64 12, .int .i64 100]) rfl rfl rfl (fun _ _ => by kernel_rfl) ?_
    refine x_buildSlice (vs := [(0, .agg #[.int .i64 0, .int .i64 0, .int .i64 12, .int .i64 100])]) #[.int .i64 0, .int .i64 0, .int .i64 12, .int .i64 100] 26 rfl rfl rfl (by kernel_rfl) (fun b16 w16 hq16 hb16 he16 hz16 => ?_)
    refine ⟨.inl rfl, ?_⟩
    have hms0 := hms
    have hst := Stp.ext (ls := [blk a8_l14, [b1], []]) he16
    replace hb1 := he16.box hb1 nn
    replace hj8_j4 := hj8_j4.step hst he16 nn2
    replace hms := hms.ev he16
    replace hev := hev.ext he16
    have hs16 : SlR (eProd (eInt .i64) (eProd (eInt .i64) (eProd (eInt .i64) (eInt .i64)))) w16 (fl [blk a8_l14, [b1], []]) (some ⟨b16, 0, none⟩) 1 ([(0, 0, 12, 100)] : List (Int × Int × Int × Int)) := ro_of_box hms0 hq16 hb16 rfl rfl (cells_at (cs := [.int .i64 0, .int .i64 0, .int .i64 12, .int .i64 100]) (CellsOf.cons (c := [.int .i64 0, .int .i64 0, .int .i64 12, .int .i64 100]) ⟨[.int .i64 0], [.int .i64 0, .int .i64 12, .int .i64 100], rfl, rfl, ⟨[.int .i64 0], [.int .i64 12, .int .i64 100], rfl, rfl, ⟨[.int .i64 12], [.int .i64 100], rfl, rfl, rfl⟩⟩⟩ CellsOf.nil))
    clear hb16 hms0
    have hg := guard_l h
    replace h := guard_r h
    obtain ⟨a18, c18, w18, hr18, he18, hn18, hm18, hw18⟩ := own_appendN tel22 22 hj8_j4 (mem_flat 0 rfl) hs16 hg
    refine x_builtin (vs := [.slice a8_l14 (d8_l14).length c8_l14, .slice (some ⟨b16, 0, none⟩) (([(0, 0, 12, 100)] : List (Int × Int × Int × Int))).length 1]) _ w18 rfl rfl rfl rfl (run_value _ _ _ _ hr18) ?_
    refine ⟨.inl rfl, ?_⟩
    have hst : Stp (fl [blk a8_l14, [b1], []]) w16 (fl [blk a18, [b1], []]) w18 := Stp.upd 0 he18 rfl (fun b hb => (hn18 b hb).1)
    replace hb1 := he18.box hb1 (hms.apart 1 0 rfl rfl rfl _ (List.mem_singleton.2 rfl))
    replace hs16 := hs16.step hst
    replace hms : MS w18 [blk a18, [b1], []] := hms.upd 0 he18 rfl hn18
    have hfr2 : FR w.heap.size [blk a18, [b1]] := hfr.upd 0 rfl hev.size (fun b hb => (hn18 b hb).1)
    replace hev := hev.then he18 (fun b hb => .inr (hfr.at 0 rfl b hb))
    replace hfr := hfr2
    clear hfr2
    replace hj8_j4 := hw18 (fl [blk a18, [b1], []]) hst.new
    clear hw18
    refine x_fieldAddr (xv := .pointer (some ⟨b1, 0, none⟩)) (.pointer (some ⟨b1, 0, none⟩)) rfl rfl rfl (reads_field tfld24_0 _ _) ?_
    obtain ⟨w19, hr19, hb19, he19⟩ := store_box 0 (.slice a18 ((d8_l14 ++ ([(0, 0, 12, 100)] : List (Int × Int × Int × Int)))).length c18) #[.slice a18 ((d8_l14 ++ ([(0, 0, 12, 100)] : List (Int × Int × Int × Int)))).length c18, .int .i64 12] tcell22 hb1 rfl rfl rfl
    refine x_store w19 (xv := .pointer (some ⟨b1, 0, none⟩)) (yv := .slice a18 ((d8_l14 ++ ([(0, 0, 12, 100)] : List (Int × Int × Int × Int)))).length c18) rfl rfl rfl rfl hr19 ?_
    refine ⟨.inl rfl, ?_⟩
    have hst := Stp.ev' (ls := [blk a18, [b1], []]) he19 (mem_flat 1 rfl)
    replace hj8_j4 := hj8_j4.step hst he19 (hms.apart 0 1 rfl rfl rfl)
    replace hs16 := hs16.step hst
    replace hms := hms.ev he19
    replace hev := hev.then he19 (fun b hb => .inr (hfr.at 1 rfl b hb))
    replace hb1 := hb19
    refine x_end rfl ?_
    refine k_block ?_
    refine k_then ?_
    refine c_plain ?_
    refine x_pure 3 [(27, .int .i64 i_s6_l14), (28, .int .i64 (IntKind.i64.wrap (i_s6_l14 + 1))), (6, .int .i64 (IntKind.i64.wrap (i_s6_l14 + 1)))] _ _ _ (by kernel_rfl) ?_
    refine x_end rfl ?_
    have hx := some_inj h
    subst hx
    exact k_then ⟨(m14, (d8_l14 ++ ([(0, 0, 12, 100)] : List (Int × Int × Int × Int))), IntKind.i64.wrap (i_s6_l14 + 1), a18, c18), ⟨rfl, rfl, rfl, rfl, trivial⟩, ⟨hn14, hev, hms, hfr, hj8_j4, hb1⟩, Nat.lt_succ_self _⟩
  replace h := ite_f hb h
  refine c_exit ?_
  refine k_then_exit ?_
  have hx := some_inj h
  subst hx
  have hy := some_inj hn14
  subst hy
  replace h := h14
  refine k_then_exit ?_
  refine k_block_in ?_
  refine k_then ?_
  refine c_norm [(0, .int .i64 (IntKind.i64.wrap (1 + (Int.tmod (IntKind.i64.wrap ((Int.tmod p0 5) + 5)) 5)))), (1, .bool p1), (5, .pointer (some ⟨b1, 0, none⟩))] ⟨rfl, rfl, rfl, trivial⟩ (fun J => ?_)
  refine c_seq (c_plain ?_)
  refine x_load (xv := .pointer (some ⟨b1, 0, none⟩)) (.agg #[.slice a8_l14 (d8_l14).length c8_l14, .int .i64 12]) rfl rfl rfl (reads_boxagg 0 [.slice a8_l14 (d8_l14).length c8_l14, .int .i64 12] tagg24 hb1 nn rfl) ?_
  obtain ⟨x20, hx, h⟩ := bind_some h
  have hpk : MS wl14 ([] ++ [[b1], []]) := hms.pick [some 1, some 2] _ rfl
  have hsb0 : ∀ x ∈ fl ([] ++ [[b1], []]), x ∈ fl [blk a8_l14, [b1], []] := pick_sub [some 1, some 2] _ rfl
  have hsb : ∀ x ∈ fl ([] ++ [(fl [[b1], []])]), x ∈ fl [blk a8_l14, [b1], []] := fun x hx => hsb0 x (fl_unfold x hx)
  have hcall := leastcode_Least_w a8_l14 c8_l14 d8_l14 12 _ wl14 (fl [[b1], []]) (MS.fold (P := []) hpk) (hj8_j4.ro hsb (fun b hb hb2 => pick_out hms 0 rfl [some 1, some 2] ([] ++ [[b1], []]) rfl rfl b hb (fl_unfold b hb2))) hx
  refine x_call 12 #[] #[] [.agg #[.slice a8_l14 (d8_l14).length c8_l14, .int .i64 12]] _ rfl rfl rfl rfl hcall ?_
  rintro v w21 ⟨a0_21, c0_21, rfl, he21, hmn21, hfn21, hf21_1⟩
  clear hcall hx
  refine ⟨.inl rfl, ?_⟩
  have hpk2 : MS wl14 ([] ++ [blk a8_l14, [b1], []]) := hms.pick [some 0, some 1, some 2] _ rfl
  have hsb2 : ∀ x ∈ fl ([] ++ [blk a8_l14, [b1], []]), x ∈ fl [blk a8_l14, [b1], []] := pick_sub [some 0, some 1, some 2] _ rfl
  have hst0 := Stp.call (LS := [blk a8_l14, [b1], []]) (res := [blk a0_21]) (par := []) (R := [blk a8_l14, [b1], []]) he21 (fun b hb => hsb2 b (fl_left' (P := []) b hb)) hfn21 (NP.init _ _) (fun x hx => hsb2 x (fl_right' (P := []) x hx))
  have hsn : ∀ x ∈ fl [blk a0_21, blk a8_l14, [b1], []], x ∈ fl ([blk a0_21] ++ ([] ++ [blk a8_l14, [b1], []])) := pick_sub [some 0, some 1, some 2, some 3] _ rfl
  have hst := hst0.res hsn
  replace hb1 := he21.box hb1 ((MS.outs (P := []) hpk2 1 rfl) _ (List.mem_singleton.2 rfl))
  replace hj8_j4 := hj8_j4.step hst he21 (MS.outs (P := []) hpk2 0 rfl)
  replace hms : MS w21 [blk a0_21, blk a8_l14, [b1], []] := (MS.call (P := []) (R := [blk a8_l14, [b1], []]) (res := [blk a0_21]) (par := []) hpk2 he21 hmn21 hfn21 (NP.init _ _)).pick [some 0, some 1, some 2, some 3] _ rfl
  have hfr2 : FR w.heap.size [blk a0_21, blk a8_l14, [b1]] := (FR.cons (fun b hb => Nat.le_trans hev.size (hfn21.at 0 rfl b hb)) (FR.cons (hfr.at 0 rfl) (FR.cons (hfr.at 1 rfl) (FR.nil _))))
  replace hev := hev.ext he21
  replace hfr := hfr2
  clear hfr2
  replace hf21_1 := OwnS.plain (M' := fl [blk a0_21, blk a8_l14, [b1], []]) (plain_int _) hf21_1
  clear hpk hsb hsb0 hpk2 hsb2 hst0 hsn hst
  have hpk : MS w21 [blk a8_l14, [b1], []] := hms.pick [some 1, some 2, some 3] _ rfl
  have hsu : ∀ x ∈ fl [blk a8_l14, [b1], []], x ∈ fl [blk a0_21, blk a8_l14, [b1], []] := pick_sub [some 1, some 2, some 3] _ rfl
  replace hj8_j4 := hj8_j4.sub hsu
  replace hf21_1 := hf21_1.ro hsu (pick_out hms 0 rfl [some 1, some 2, some 3] [blk a8_l14, [b1], []] rfl rfl)
  replace hms := hpk
  replace hfr : FR w.heap.size [blk a8_l14, [b1]] := hfr.pick [some 1, some 2] _ rfl
  clear hpk hsu
  refine x_pure 3 [(35, .tuple #[.agg #[.int .i64 x20.1.1, .slice a0_21 (x20.1.2).length c0_21], .int .i64 x20.2]), (38, .agg #[.int .i64 x20.1.1, .slice a0_21 (x20.1.2).length c0_21]), (39, .int .i64 x20.2)] _ _ _ (by kernel_rfl) ?_
  refine x_alloc (z := .agg #[.int .i64 0, .slice none 0 0]) rfl rfl (by kernel_rfl) (fun b23 w23 hq23 hb23 he23 hz23 => ?_)
  replace hb23 : w23.heap[b23]? = some (.cells #[.int .i64 0, .slice none 0 0] 29 (0, 0)) := hb23
  refine ⟨.inl rfl, ?_⟩
  have hst := Stp.box (ls := [blk a8_l14, [b1], []]) he23 hq23
  replace hb1 := he23.box hb1 nn
  replace hj8_j4 := hj8_j4.step hst he23 nn2
  replace hf21_1 := hf21_1.step hst
  replace hms := hms.box he23 hq23 hb23
  replace hfr := hfr.box hev.size hq23
  replace hev := hev.ext he23
  obtain ⟨w25, hr25, hb25, he25⟩ := store_boxagg 0 [.int .i64 x20.1.1, .slice a0_21 (x20.1.2).length c0_21] #[.int .i64 x20.1.1, .slice a0_21 (x20.1.2).length c0_21] tagg29 hb23 rfl rfl rfl
  refine x_store w25 (xv := .pointer (some ⟨b23, 0, none⟩)) (yv := .agg #[.int .i64 x20.1.1, .slice a0_21 (x20.1.2).length c0_21]) rfl rfl rfl rfl hr25 ?_
  refine ⟨.inl rfl, ?_⟩
  have hst := Stp.ev' (ls := [[b23], blk a8_l14, [b1], []]) he25 (mem_flat 0 rfl)
  replace hb1 := he25.box hb1 (hms.apart 2 0 rfl rfl rfl _ (List.mem_singleton.2 rfl))
  replace hj8_j4 := hj8_j4.step hst he25 (hms.apart 1 0 rfl rfl rfl)
  replace hf21_1 := hf21_1.step hst
  replace hms := hms.ev he25
  replace hev := hev.then he25 (fun b hb => .inr (hfr.at 0 rfl b hb))
  replace hb23 := hb25
  refine x_pure 1 [(8, .int .i64 x20.2)] _ _ _ (by kernel_rfl) ?_
  refine x_end rfl (k_then ?_)
  refine c_seq ?_
  refine c_seq (c_plain ?_)
  refine x_pure 1 [(40, .bool p1)] _ _ _ (by kernel_rfl) ?_
  refine x_end rfl (k_then ?_)
  refine c_cond p1 rfl (fun hb => ?_) (fun hb => ?_)
  · replace h := ite_t hb h
    refine c_seq (c_plain ?_)
    refine x_pure 3 [(41, .int .i64 x20.2), (42, .bool (x20.2 == 15)), (43, .bool (x20.2 == 15))] _ _ _ (by kernel_rfl) ?_
    refine x_split 43 (x20.2 == 15) rfl (fun hb => ?_) (fun hb => ?_)
    · replace h := ite_t hb h
      obtain ⟨x27, hx, h⟩ := bind_some h
      have hcall := law13_sane_w _ w25 hx
      refine x_call 13 #[] #[] [] _ rfl rfl rfl rfl hcall ?_
      rintro v w28 ⟨rfl, he28⟩
      clear hcall hx
      refine ⟨.inl rfl, ?_⟩
      have hst := Stp.ext (ls := [[b23], blk a8_l14, [b1], []]) he28
      replace hb1 := he28.box hb1 nn
      replace hj8_j4 := hj8_j4.step hst he28 nn2
      replace hf21_1 := hf21_1.step hst
      replace hb23 := he28.box hb23 nn
      replace hms := hms.ev he28
      replace hev := hev.ext he28
      refine x_pure 2 [(45, .bool x27), (4, .bool x27)] _ _ _ (by kernel_rfl) ?_
      refine x_end rfl (k_then ?_)
      refine c_norm [(4, .bool x27)] ⟨rfl, trivial⟩ (fun J => ?_)
      refine c_ret ?_
      refine k_then_ret ?_
      refine r_ret (r_vals [.bool x27] ⟨rfl, trivial⟩ ?_)
      have hx := some_inj h
      subst hx
      exact ⟨rfl, hev⟩
    replace h := ite_f hb h
    refine x_pure 3 [(44, undef), (45, .bool false), (4, .bool false)] _ _ _ (by kernel_rfl) ?_
    refine x_end rfl (k_then ?_)
    refine c_norm [(4, .bool false)] ⟨rfl, trivial⟩ (fun J => ?_)
    refine c_ret ?_
    refine k_then_ret ?_
    refine r_ret (r_vals [.bool false] ⟨rfl, trivial⟩ ?_)
    have hx := some_inj h
    subst hx
    exact ⟨rfl, hev⟩
  replace h := ite_f hb h
  refine c_skip ?_
  refine k_then ?_
  refine c_seq ?_
  refine c_seq (c_plain ?_)
  refine x_pure 3 [(46, .int .i64 x20.2), (47, .bool (x20.2 != 0)), (48, .bool (x20.2 != 0))] _ _ _ (by kernel_rfl) ?_
  refine x_split 48 (x20.2 != 0) rfl (fun hb => ?_) (fun hb => ?_)
  · replace h := ite_t hb h
    refine x_pure 11 [(49, undef), (50, undef), (51, undef), (52, .bool true), (53, .bool true), (54, undef), (55, undef), (56, undef), (57, undef), (58, undef), (59, .bool true)] _ _ _ (by kernel_rfl) ?_
    refine x_end rfl (k_then ?_)
    refine c_norm [(7, .pointer (some ⟨b23, 0, none⟩)), (59, .bool true)] ⟨rfl, rfl, trivial⟩ (fun J => ?_)
    refine c_true rfl ?_
    refine c_seq (c_plain ?_)
    refine x_pure 1 [(4, .bool false)] _ _ _ (by kernel_rfl) ?_
    refine x_end rfl (k_then ?_)
    refine c_ret ?_
    refine k_then_ret ?_
    refine r_ret (r_vals [.bool false] ⟨rfl, trivial⟩ ?_)
    have hx := some_inj h
    subst hx
    exact ⟨rfl, hev⟩
  replace h := ite_f hb h
  refine x_fieldAddr (xv := .pointer (some ⟨b23, 0, none⟩)) (.pointer (some ⟨b23, 0, none⟩)) rfl rfl rfl (reads_field tfld29_0 _ _) ?_
  refine x_load (xv := .pointer (some ⟨b23, 0, none⟩)) (.int .i64 x20.1.1) rfl rfl rfl (reads_box tcell3 hb23 nn 0 _ rfl) ?_
  refine x_pure 3 [(51, .bool (x20.1.1 != 12)), (52, .bool (x20.1.1 != 12)), (53, .bool (x20.1.1 != 12))] _ _ _ (by kernel_rfl) ?_
  refine x_split 53 (x20.1.1 != 12) rfl (fun hb => ?_) (fun hb => ?_)
  · replace h := ite_t hb h
    refine x_pure 6 [(54, undef), (55, undef), (56, undef), (57, undef), (58, undef), (59, .bool true)] _ _ _ (by kernel_rfl) ?_
    refine x_end rfl (k_then ?_)
    refine c_norm [(7, .pointer (some ⟨b23, 0, none⟩)), (59, .bool true)] ⟨rfl, rfl, trivial⟩ (fun J => ?_)
    refine c_true rfl ?_
    refine c_seq (c_plain ?_)
    refine x_pure 1 [(4, .bool false)] _ _ _ (by kernel_rfl) ?_
    refine x_end rfl (k_then ?_)
    refine c_ret ?_
    refine k_then_ret ?_
    refine r_ret (r_vals [.bool false] ⟨rfl, trivial⟩ ?_)
    have hx := some_inj h
    subst hx
    exact ⟨rfl, hev⟩
  replace h := ite_f hb h
  refine x_fieldAddr (xv := .pointer (some ⟨b23, 0, none⟩)) (.pointer (some ⟨b23, 1, none⟩)) rfl rfl rfl (reads_field tfld29_1 _ _) ?_
  refine x_load (xv := .pointer (some ⟨b23, 1, none⟩)) (.slice a0_21 (x20.1.2).length c0_21) rfl rfl rfl (reads_box tcell27 hb23 nn 1 _ rfl) ?_
  refine x_len (vs := [.slice a0_21 (x20.1.2).length c0_21]) (.int .i64 ((x20.1.2).length : Int)) rfl rfl rfl (reads_len tsl27 _ _ _ _ _) ?_
  refine x_pure 3 [(57, .int .i64 (IntKind.i64.wrap (1 + (Int.tmod (IntKind.i64.wrap ((Int.tmod p0 5) + 5)) 5)))), (58, .bool (((x20.1.2).length : Int) != (IntKind.i64.wrap (1 + (Int.tmod (IntKind.i64.wrap ((Int.tmod p0 5) + 5)) 5))))), (59, .bool (((x20.1.2).length : Int) != (IntKind.i64.wrap (1 + (Int.tmod (IntKind.i64.wrap ((Int.tmod p0 5) + 5)) 5)))))] _ _ _ (by kernel_rfl) ?_
  refine x_end rfl (k_then ?_)
  refine c_norm [(7, .pointer (some ⟨b23, 0, none⟩)), (59, .bool (((x20.1.2).length : Int) != (IntKind.i64.wrap (1 + (Int.tmod (IntKind.i64.wrap ((Int.tmod p0 5) + 5)) 5)))))] ⟨rfl, rfl, trivial⟩ (fun J => ?_)
  refine c_cond (((x20.1.2).length : Int) != (IntKind.i64.wrap (1 + (Int.tmod (IntKind.i64.wrap ((Int.tmod p0 5) + 5)) 5)))) rfl (fun hb => ?_) (fun hb => ?_)
  · replace h := ite_t hb h
    refine c_seq (c_plain ?_)
    refine x_pure 1 [(4, .bool false)] _ _ _ (by kernel_rfl) ?_
    refine x_end rfl (k_then ?_)
    refine c_ret ?_
    refine k_then_ret ?_
    refine r_ret (r_vals [.bool false] ⟨rfl, trivial⟩ ?_)
    have hx := some_inj h
    subst hx
    exact ⟨rfl, hev⟩
  replace h := ite_f hb h
  refine c_skip ?_
  refine k_then ?_
  refine c_seq ?_
  refine c_seq (c_plain ?_)
  refine x_fieldAddr (xv := .pointer (some ⟨b23, 0, none⟩)) (.pointer (some ⟨b23, 1, none⟩)) rfl rfl rfl (reads_field tfld29_1 _ _) ?_
  refine x_load (xv := .pointer (some ⟨b23, 1, none⟩)) (.slice a0_21 (x20.1.2).length c0_21) rfl rfl rfl (reads_box tcell27 hb23 nn 1 _ rfl) ?_
  refine x_len (vs := [.slice a0_21 (x20.1.2).length c0_21]) (.int .i64 ((x20.1.2).length : Int)) rfl rfl rfl (reads_len tsl27 _ _ _ _ _) ?_
  refine x_pure 1 [(63, .int .i64 0)] _ _ _ (by kernel_rfl) ?_
  refine x_end rfl (k_then ?_)
  refine c_block ?_
  have hpk : MS w25 [[]] := hms.pick [some 3] _ rfl
  have hsu : ∀ x ∈ fl [[]], x ∈ fl [[b23], blk a8_l14, [b1], []] := pick_sub [some 3] _ rfl
  replace hf21_1 := hf21_1.sub hsu
  replace hms := hpk
  replace hfr : FR w.heap.size [] := hfr.pick [] _ rfl
  clear hpk hsu
  obtain ⟨d30, hd30, h30⟩ := bind_some h
  obtain ⟨m30, hd30⟩ := loop_some hd30
  refine c_loop (loop_rule hmx (σ := Nat × Int) (fun s => match s with | (_, t63__s63_l30) => [(61, .slice a0_21 (x20.1.2).length c0_21), (62, .int .i64 ((x20.1.2).length : Int)), (63, .int .i64 t63__s63_l30)]) (fun s w' => match s with | (m, t63__s63_l30) => loopN (law13_LeastcodeRounds_L30 x20) m t63__s63_l30 = some d30 ∧ Ev [] w w' ∧ MS w' [[]] ∧ FR w.heap.size [] ∧ SlR (eInt .i64) w' (fl [[]]) a0_21 c0_21 x20.1.2) (fun s => s.1) (m30, 0) ⟨rfl, rfl, rfl, trivial⟩ ⟨hd30, hev, hms, hfr, hf21_1⟩ ?_)
  rintro ⟨m30, t63__s63_l30⟩ J wl30 ⟨hn30, hev, hms, hfr, hf21_1⟩
  rcases m30 with _ | m30
  · exact (loopN_zero hn30).elim
  obtain ⟨t30, h, hn30⟩ := bind_some hn30
  refine c_seq (c_plain ?_)
  refine x_pure 1 [(64, .bool (decide (t63__s63_l30 < ((x20.1.2).length : Int))))] _ _ _ (by kernel_rfl) ?_
  refine x_end rfl (k_then ?_)
  refine c_norm [(61, .slice a0_21 (x20.1.2).length c0_21), (62, .int .i64 ((x20.1.2).length : Int)), (63, .int .i64 t63__s63_l30), (64, .bool (decide (t63__s63_l30 < ((x20.1.2).length : Int))))] ⟨rfl, rfl, rfl, rfl, trivial⟩ (fun J => ?_)
  refine c_seq ?_
  refine c_cond (decide (t63__s63_l30 < ((x20.1.2).length : Int))) rfl (fun hb => ?_) (fun hb => ?_)
  · replace h := ite_t hb h
    refine c_skip ?_
    refine k_then ?_
    refine c_seq ?_
    refine c_block ?_
    refine c_seq (c_plain ?_)
    obtain ⟨x32, hx32, h⟩ := bind_some h
    obtain ⟨ad32, cs32, hr32, hc32, hR⟩ := reads_index (Mo := []) tsl27 hf21_1 hx32
    obtain rfl := hR
    refine x_indexAddr (xv := .slice a0_21 (x20.1.2).length c0_21) (yv := .int .i64 t63__s63_l30) (.pointer (some ad32)) rfl rfl rfl rfl hr32 ?_
    refine x_load (xv := .pointer (some ad32)) (.int .i64 x32) rfl rfl rfl (reads_cell0 tcell3 hc32 (fun _ h => by cases h)) ?_
    refine x_pure 1 [(10, .int .i64 x32)] _ _ _ (by kernel_rfl) ?_
    refine x_end rfl (k_then ?_)
    refine c_seq (c_plain ?_)
    refine x_pure 2 [(67, .int .i64 x32), (68, .bool (x32 != 4095))] _ _ _ (by kernel_rfl) ?_
    refine x_end rfl (k_then ?_)
    refine c_cond (x32 != 4095) rfl (fun hb => ?_) (fun hb => ?_)
    · replace h := ite_t hb h
      refine c_seq (c_plain ?_)
      refine x_pure 1 [(4, .bool false)] _ _ _ (by kernel_rfl) ?_
      refine x_end rfl (k_then ?_)
      refine c_ret ?_
      refine k_block_ret ?_
      refine k_then_ret ?_
      have hx := some_inj h
      subst hx
      have hy := some_inj hn30
      subst hy
      replace h := h30
      refine k_then_ret ?_
      refine k_block_ret ?_
      refine k_then_ret ?_
      refine r_ret (r_vals [.bool false] ⟨rfl, trivial⟩ ?_)
      have hx := some_inj h
      subst hx
      exact ⟨rfl, hev⟩
    replace h := ite_f hb h
    refine c_skip ?_
    refine k_block ?_
    refine k_then ?_
    refine c_plain ?_
    refine x_pure 2 [(69, .int .i64 (IntKind.i64.wrap (t63__s63_l30 + 1))), (63, .int .i64 (IntKind.i64.wrap (t63__s63_l30 + 1)))] _ _ _ (by kernel_rfl) ?_
    refine x_end rfl ?_
    have hx := some_inj h
    subst hx
    exact k_then ⟨(m30, IntKind.i64.wrap (t63__s63_l30 + 1)), ⟨rfl, rfl, rfl, trivial⟩, ⟨hn30, hev, hms, hfr, hf21_1⟩, Nat.lt_succ_self _⟩
  replace h := ite_f hb h
  refine c_exit ?_
  refine k_then_exit ?_
  have hx := some_inj h
  subst hx
  have hy := some_inj hn30
  subst hy
  replace h := h30
  refine k_then_exit ?_
  refine k_block_in ?_
  refine k_then ?_
  refine c_norm [] trivial (fun J => ?_)
  refine c_seq (c_plain ?_)
  obtain ⟨x34, hx, h⟩ := bind_some h
  have hcall := law13_sane_w _ wl30 hx
  refine x_call 13 #[] #[] [] _ rfl rfl rfl rfl hcall ?_
  rintro v w35 ⟨rfl, he35⟩
  clear hcall hx
  refine ⟨.inl rfl, ?_⟩
  replace hms := hms.ev he35
  replace hev := hev.ext he35
  refine x_pure 1 [(4, .bool x34)] _ _ _ (by kernel_rfl) ?_
  refine x_end rfl (k_then ?_)
  refine c_ret ?_
  refine r_ret (r_vals [.bool x34] ⟨rfl, trivial⟩ ?_)
  have hx := some_inj h
  subst hx
  exact ⟨rfl, hev⟩
end Go.Proofs.Ytgdaanhiagoonaa
