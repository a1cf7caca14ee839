/- Walks, printed by program: each function returns what the partial function of the same name returns. Conditions: those of each theorem. -/
import Derived.Test.YtmjobkpgnhbcbaaGT
import Derived.Test.YtmjobkpgnhbcbaaGlaw14
import Derived.Test.YtmjobkpgnhbcbaaGrollin
set_option linter.unusedVariables false
set_option linter.unusedSimpArgs false
set_option maxRecDepth 4000
namespace Go.Proofs.Ytmjobkpgnhbcbaa
open Go Go.V Go.Proofs
def law14_RollinAll_L47 (n_0 : Int) (x28 : (List Int) × Int) (s : Int) : Option (Step Int (Unit ⊕ Unit)) :=
match s with
| t120__s120_l47 =>
(if (decide (t120__s120_l47 < ((x28.1).length : Int))) = true then
((idx x28.1 t120__s120_l47).bind fun x49 =>
(if (x49 != (IntKind.i64.wrap ((IntKind.i64.wrap (96 - (Int.tmod (IntKind.i64.wrap ((Int.tmod n_0 3) + 3)) 3))) * 400))) = true then
some (.done (.inl ()))
else
some (.next (IntKind.i64.wrap (t120__s120_l47 + 1)))))
else
some (.done (.inr ())))

def law14_RollinAll_L43 (x39 : List Int) (s : Int) : Option (Step Int (Unit ⊕ Unit)) :=
match s with
| t109__s109_l43 =>
(if (decide (t109__s109_l43 < ((x39).length : Int))) = true then
((idx x39 t109__s109_l43).bind fun x45 =>
(if (x45 != t109__s109_l43) = true then
some (.done (.inl ()))
else
some (.next (IntKind.i64.wrap (t109__s109_l43 + 1)))))
else
some (.done (.inr ())))

def law14_RollinAll_L8 (n_0 : Int) (blocks_1 : Int) (s : (List (Int × Int × Int × Int)) × (List Int) × Int) : Option (Step ((List (Int × Int × Int × Int)) × (List Int) × Int) ((List (Int × Int × Int × Int)) × (List Int))) :=
match s with
| (d10_l8, d12_l8, i_s7_l8) =>
(if (decide (i_s7_l8 < (IntKind.i64.wrap (96 - (Int.tmod (IntKind.i64.wrap ((Int.tmod n_0 3) + 3)) 3))))) = true then
(if d10_l8.length + ([(0, Int.tmod (IntKind.i64.wrap ((Int.tmod blocks_1 4) + 4)) 4, 0, 400)] : List (Int × Int × Int × Int)).length ≤ 4294967296 then
(if d12_l8.length + ([4095]).length ≤ 4294967296 then
some (.next ((d10_l8 ++ ([(0, Int.tmod (IntKind.i64.wrap ((Int.tmod blocks_1 4) + 4)) 4, 0, 400)] : List (Int × Int × Int × Int))), (d12_l8 ++ [4095]), IntKind.i64.wrap (i_s7_l8 + 1)))
else none)
else none)
else
some (.done (d10_l8, d12_l8)))

def law14_RollinAll (n_0 : Int) (blocks_1 : Int) : Option Bool :=
((loop (law14_RollinAll_L8 n_0 blocks_1) (([] : List (Int × Int × Int × Int)), ([] : List Int), 0)).bind fun d => match d with
| (d10_x8, d12_x8) => ((rollin_Run d10_x8 12 12 d12_x8).bind fun x22 =>
((rollin_Loads d10_x8 12 12 d12_x8).bind fun x28 =>
((rollin_Pushes d10_x8 12 12 d12_x8).bind fun x31 =>
(if (x22.2 != 0) = true then
some false
else
(if (x28.2 != 0) = true then
some false
else
(if (x31.2 != 0) = true then
some false
else
(if (x22.1.2 != (IntKind.i64.wrap (13 * (IntKind.i64.wrap (96 - (Int.tmod (IntKind.i64.wrap ((Int.tmod n_0 3) + 3)) 3)))))) = true then
some false
else
(if (x31.1 != 13) = true then
some false
else
(if (((x22.1.1).length : Int) != 1) = true then
some false
else
((idx x22.1.1 0).bind fun x34 =>
(if (((x34).length : Int) != (IntKind.i64.wrap (96 - (Int.tmod (IntKind.i64.wrap ((Int.tmod n_0 3) + 3)) 3)))) = true then
some false
else
(if (((x28.1).length : Int) != 13) = true then
some false
else
((idx x22.1.1 0).bind fun x39 =>
((loop (law14_RollinAll_L43 x39) 0).bind fun d => match d with
| (.inl _) => some false
| (.inr _) => ((loop (law14_RollinAll_L47 n_0 x28) 0).bind fun d => match d with
| (.inl _) => some false
| (.inr _) => ((law14_sane).bind fun x51 =>
some x51)))))))))))))))))

theorem law14_RollinAll_w (n_0 : Int) (blocks_1 : Int) (r : Bool) (w : World) (h : law14_RollinAll n_0 blocks_1 = some r) : CallVC Try.prog 7 [.int .i64 n_0, .int .i64 blocks_1] w fun v w' => v = .bool r ∧ Ev [] w w' := by
  refine calls_vc hmx Try.func7 (by kernel_rfl) rfl (rs := [.tmp 4]) rfl (by kernel_rfl) (args := [.int .i64 n_0, .int .i64 blocks_1]) rfl ?_
  have hev : Ev [] w w := Ev.refl _ _
  have hms : MS w [[]] := ⟨List.pairwise_singleton _ _, fun l hl b hb => by simp only [List.mem_singleton] at hl; subst hl; cases hb⟩
  have hfr : FR w.heap.size [] := FR.nil _
  refine c_seq ?_
  refine c_plain ?_
  refine x_pure 1 [(4, .bool false)] _ _ _ (by kernel_rfl) ?_
  refine x_end rfl ?_
  refine k_then ?_
  refine c_norm [(0, .int .i64 n_0), (1, .int .i64 blocks_1)] ⟨rfl, rfl, trivial⟩ (fun J => ?_)
  refine c_seq ?_
  refine c_plain ?_
  refine x_pure 6 [(18, .int .i64 n_0), (19, .int .i64 (Int.tmod n_0 3)), (20, .int .i64 (IntKind.i64.wrap ((Int.tmod n_0 3) + 3))), (21, .int .i64 (Int.tmod (IntKind.i64.wrap ((Int.tmod n_0 3) + 3)) 3)), (22, .int .i64 (IntKind.i64.wrap (96 - (Int.tmod (IntKind.i64.wrap ((Int.tmod n_0 3) + 3)) 3)))), (0, .int .i64 (IntKind.i64.wrap (96 - (Int.tmod (IntKind.i64.wrap ((Int.tmod n_0 3) + 3)) 3))))] _ _ _ (by kernel_rfl) ?_
  refine x_end rfl ?_
  refine k_then ?_
  refine c_norm [(0, .int .i64 (IntKind.i64.wrap (96 - (Int.tmod (IntKind.i64.wrap ((Int.tmod n_0 3) + 3)) 3)))), (1, .int .i64 blocks_1)] ⟨rfl, rfl, trivial⟩ (fun J => ?_)
  refine c_seq ?_
  refine c_plain ?_
  refine x_build (vs := [(1, .int .i64 12)]) (.agg #[.slice none 0 0, .int .i64 12]) rfl rfl rfl (fun _ _ => by kernel_rfl) ?_
  refine x_alloc (z := .agg #[.slice none 0 0, .int .i64 0]) rfl rfl (by kernel_rfl) (fun b1 w1 hq1 hb1 he1 _ => ?_)
  replace hb1 : w1.heap[b1]? = some (.cells #[.slice none 0 0, .int .i64 0] 27 (0, 0)) := hb1
  refine ⟨.inl rfl, ?_⟩
  replace hms := hms.box he1 hq1 hb1
  replace hfr := hfr.box hev.size hq1
  replace hev := hev.ext he1
  obtain ⟨w3, hr3, hb3, he3⟩ := store_boxagg 0 [.slice none 0 0, .int .i64 12] #[.slice none 0 0, .int .i64 12] tagg27 hb1 rfl rfl rfl
  refine x_store w3 (xv := .pointer (some ⟨b1, 0, none⟩)) (yv := .agg #[.slice none 0 0, .int .i64 12]) rfl rfl rfl rfl hr3 ?_
  refine ⟨.inl rfl, ?_⟩
  replace hms := hms.ev he3
  replace hev := hev.then he3 (fun b hb => .inr (hfr.at 0 rfl b hb))
  replace hb1 := hb3
  refine x_end rfl ?_
  refine k_then ?_
  refine c_norm [(0, .int .i64 (IntKind.i64.wrap (96 - (Int.tmod (IntKind.i64.wrap ((Int.tmod n_0 3) + 3)) 3)))), (1, .int .i64 blocks_1), (5, .pointer (some ⟨b1, 0, none⟩))] ⟨rfl, rfl, rfl, trivial⟩ (fun J => ?_)
  refine c_seq ?_
  refine c_plain ?_
  refine x_build (vs := [(0, .int .i64 12)]) (.agg #[.int .i64 12, .slice none 0 0]) rfl rfl rfl (fun _ _ => by kernel_rfl) ?_
  refine x_alloc (z := .agg #[.int .i64 0, .slice none 0 0]) rfl rfl (by kernel_rfl) (fun b4 w4 hq4 hb4 he4 _ => ?_)
  replace hb4 : w4.heap[b4]? = some (.cells #[.int .i64 0, .slice none 0 0] 30 (0, 0)) := hb4
  refine ⟨.inl rfl, ?_⟩
  replace hb1 := he4.box hb1 (fun h => by cases h)
  replace hms := hms.box he4 hq4 hb4
  replace hfr := hfr.box hev.size hq4
  replace hev := hev.ext he4
  obtain ⟨w6, hr6, hb6, he6⟩ := store_boxagg 0 [.int .i64 12, .slice none 0 0] #[.int .i64 12, .slice none 0 0] tagg30 hb4 rfl rfl rfl
  refine x_store w6 (xv := .pointer (some ⟨b4, 0, none⟩)) (yv := .agg #[.int .i64 12, .slice none 0 0]) rfl rfl rfl rfl hr6 ?_
  refine ⟨.inl rfl, ?_⟩
  replace hb1 := he6.box hb1 (hms.apart 1 0 rfl rfl rfl _ (List.mem_singleton.2 rfl))
  replace hms := hms.ev he6
  replace hev := hev.then he6 (fun b hb => .inr (hfr.at 0 rfl b hb))
  replace hb4 := hb6
  refine x_end rfl ?_
  refine k_then ?_
  refine c_norm [(0, .int .i64 (IntKind.i64.wrap (96 - (Int.tmod (IntKind.i64.wrap ((Int.tmod n_0 3) + 3)) 3)))), (1, .int .i64 blocks_1), (5, .pointer (some ⟨b1, 0, none⟩)), (6, .pointer (some ⟨b4, 0, none⟩))] ⟨rfl, rfl, rfl, rfl, trivial⟩ (fun J => ?_)
  refine c_seq ?_
  refine c_seq ?_
  refine c_plain ?_
  refine x_pure 1 [(7, .int .i64 0)] _ _ _ (by kernel_rfl) ?_
  refine x_end rfl ?_
  refine k_then ?_
  refine c_norm [(0, .int .i64 (IntKind.i64.wrap (96 - (Int.tmod (IntKind.i64.wrap ((Int.tmod n_0 3) + 3)) 3)))), (1, .int .i64 blocks_1), (5, .pointer (some ⟨b1, 0, none⟩)), (6, .pointer (some ⟨b4, 0, none⟩)), (7, .int .i64 0)] ⟨rfl, rfl, rfl, rfl, rfl, trivial⟩ (fun J => ?_)
  refine c_block ?_
  replace hb1 := (Ev.refl [] _).box hb1 (fun h => by cases h)
  replace hb4 := (Ev.refl [] _).box hb4 (fun h => by cases h)
  replace hms := hms.push (l := blk none) (Ev.refl [] _) (fun _ h => by cases h)
  replace hfr := hfr.push (l := blk none) (fun _ h => by cases h)
  have ho9 := OwnS.nil (eProd (eInt .i64) (eProd (eInt .i64) (eProd (eInt .i64) (eInt .i64)))) 39 w6 (fl [blk none, [b4], [b1], []])
  have hst := Stp.push (ls := [blk none, [b4], [b1], []]) (l := blk none) (Ev.refl [] w6) (fun _ h => by cases h) (fun _ h => by cases h)
  replace hb1 := (Ev.refl [] _).box hb1 (fun h => by cases h)
  replace hb4 := (Ev.refl [] _).box hb4 (fun h => by cases h)
  replace ho9 := ho9.step hst (Ev.refl [] _) (fun _ _ h => by cases h)
  replace hms := hms.push (l := blk none) (Ev.refl [] _) (fun _ h => by cases h)
  replace hfr := hfr.push (l := blk none) (fun _ h => by cases h)
  have ho11 := OwnS.nil (eInt .i64) 3 w6 (fl [blk none, blk none, [b4], [b1], []])
  have hpk : MS w6 [blk none, [b1], blk none, [b4], []] := hms.pick [some 1, some 3, some 0, some 2, some 4] _ rfl
  have hsu : ∀ x ∈ fl [blk none, [b1], blk none, [b4], []], x ∈ fl [blk none, blk none, [b4], [b1], []] := pick_sub [some 1, some 3, some 0, some 2, some 4] _ rfl
  replace ho9 := ho9.sub hsu
  replace ho11 := ho11.sub hsu
  replace hms := hpk
  replace hfr : FR w.heap.size [blk none, [b1], blk none, [b4]] := hfr.pick [some 1, some 3, some 0, some 2] _ rfl
  clear hpk hsu
  obtain ⟨d8, hd8, h8⟩ := bind_some h
  obtain ⟨m8, hd8⟩ := loop_some hd8
  refine c_loop (loop_rule hmx (σ := Nat × (List (Int × Int × Int × Int)) × (List Int) × Int × Option Addr × Nat × Option Addr × Nat) (fun s => match s with | (_, d10_l8, d12_l8, i_s7_l8, a10_l8, c10_l8, a12_l8, c12_l8) => [(0, .int .i64 (IntKind.i64.wrap (96 - (Int.tmod (IntKind.i64.wrap ((Int.tmod n_0 3) + 3)) 3)))), (1, .int .i64 blocks_1), (5, .pointer (some ⟨b1, 0, none⟩)), (6, .pointer (some ⟨b4, 0, none⟩)), (7, .int .i64 i_s7_l8)]) (fun s w' => match s with | (m, d10_l8, d12_l8, i_s7_l8, a10_l8, c10_l8, a12_l8, c12_l8) => loopN (law14_RollinAll_L8 n_0 blocks_1) m (d10_l8, d12_l8, i_s7_l8) = some d8 ∧ Ev [] w w' ∧ MS w' [blk a10_l8, [b1], blk a12_l8, [b4], []] ∧ FR w.heap.size [blk a10_l8, [b1], blk a12_l8, [b4]] ∧ OwnS (eProd (eInt .i64) (eProd (eInt .i64) (eProd (eInt .i64) (eInt .i64)))) 39 w' (fl [blk a10_l8, [b1], blk a12_l8, [b4], []]) a10_l8 c10_l8 d10_l8 ∧ w'.heap[b1]? = some (.cells #[.slice a10_l8 (d10_l8).length c10_l8, .int .i64 12] 27 (0, 0)) ∧ OwnS (eInt .i64) 3 w' (fl [blk a10_l8, [b1], blk a12_l8, [b4], []]) a12_l8 c12_l8 d12_l8 ∧ w'.heap[b4]? = some (.cells #[.int .i64 12, .slice a12_l8 (d12_l8).length c12_l8] 30 (0, 0))) (fun s => s.1) (m8, ([] : List (Int × Int × Int × Int)), ([] : List Int), 0, none, 0, none, 0) ⟨rfl, rfl, rfl, rfl, rfl, trivial⟩ ⟨hd8, hev, hms, hfr, ho9, hb1, ho11, hb4⟩ ?_)
  rintro ⟨m8, d10_l8, d12_l8, i_s7_l8, a10_l8, c10_l8, a12_l8, c12_l8⟩ J wl8 ⟨hn8, hev, hms, hfr, hj10_l8, hb1, hj12_l8, hb4⟩
  rcases m8 with _ | m8
  · exact (loopN_zero hn8).elim
  obtain ⟨t8, h, hn8⟩ := bind_some hn8
  refine c_seq ?_
  refine c_seq ?_
  refine c_plain ?_
  refine x_pure 3 [(25, .int .i64 i_s7_l8), (26, .int .i64 (IntKind.i64.wrap (96 - (Int.tmod (IntKind.i64.wrap ((Int.tmod n_0 3) + 3)) 3)))), (27, .bool (decide (i_s7_l8 < (IntKind.i64.wrap (96 - (Int.tmod (IntKind.i64.wrap ((Int.tmod n_0 3) + 3)) 3))))))] _ _ _ (by kernel_rfl) ?_
  refine x_end rfl ?_
  refine k_then ?_
  refine c_norm [(0, .int .i64 (IntKind.i64.wrap (96 - (Int.tmod (IntKind.i64.wrap ((Int.tmod n_0 3) + 3)) 3)))), (1, .int .i64 blocks_1), (5, .pointer (some ⟨b1, 0, none⟩)), (6, .pointer (some ⟨b4, 0, none⟩)), (7, .int .i64 i_s7_l8), (27, .bool (decide (i_s7_l8 < (IntKind.i64.wrap (96 - (Int.tmod (IntKind.i64.wrap ((Int.tmod n_0 3) + 3)) 3))))))] ⟨rfl, rfl, rfl, rfl, rfl, rfl, trivial⟩ (fun J => ?_)
  refine c_cond (decide (i_s7_l8 < (IntKind.i64.wrap (96 - (Int.tmod (IntKind.i64.wrap ((Int.tmod n_0 3) + 3)) 3))))) rfl (fun hb => ?_) (fun hb => ?_)
  · replace h := ite_t hb h
    refine c_skip ?_
    refine k_then ?_
    refine c_norm [(0, .int .i64 (IntKind.i64.wrap (96 - (Int.tmod (IntKind.i64.wrap ((Int.tmod n_0 3) + 3)) 3)))), (1, .int .i64 blocks_1), (5, .pointer (some ⟨b1, 0, none⟩)), (6, .pointer (some ⟨b4, 0, none⟩)), (7, .int .i64 i_s7_l8)] ⟨rfl, rfl, rfl, rfl, rfl, trivial⟩ (fun J => ?_)
    refine c_seq ?_
    refine c_block ?_
    refine c_seq ?_
    refine c_plain ?_
    refine x_fieldAddr (xv := .pointer (some ⟨b1, 0, none⟩)) (.pointer (some ⟨b1, 0, none⟩)) rfl rfl rfl (reads_field tfld27_0 _ _) ?_
    refine x_load (xv := .pointer (some ⟨b1, 0, none⟩)) (.slice a10_l8 (d10_l8).length c10_l8) rfl rfl rfl (reads_box tcell25 hb1 (fun h => by cases h) 0 _ rfl) ?_
    refine x_pure 4 [(32, .int .i64 blocks_1), (33, .int .i64 (Int.tmod blocks_1 4)), (34, .int .i64 (IntKind.i64.wrap ((Int.tmod blocks_1 4) + 4))), (35, .int .i64 (Int.tmod (IntKind.i64.wrap ((Int.tmod blocks_1 4) + 4)) 4))] _ _ _ (by kernel_rfl) ?_
    refine x_build (vs := [(1, .int .i64 (Int.tmod (IntKind.i64.wrap ((Int.tmod blocks_1 4) + 4)) 4)), (3, .int .i64 400)]) (.agg #[.int .i64 0, .int .i64 (Int.tmod (IntKind.i64.wrap ((Int.tmod blocks_1 4) + 4)) 4), .int .i64 0, .int .i64 400]) rfl rfl rfl (fun _ _ => by kernel_rfl) ?_
    refine x_buildSlice (vs := [(0, .agg #[.int .i64 0, .int .i64 (Int.tmod (IntKind.i64.wrap ((Int.tmod blocks_1 4) + 4)) 4), .int .i64 0, .int .i64 400])]) #[.int .i64 0, .int .i64 (Int.tmod (IntKind.i64.wrap ((Int.tmod blocks_1 4) + 4)) 4), .int .i64 0, .int .i64 400] 39 rfl rfl rfl (by kernel_rfl) (fun b14 w14 hq14 hb14 he14 _ => ?_)
    refine ⟨.inl rfl, ?_⟩
    have hms0 := hms
    have hst := Stp.ext (ls := [blk a10_l8, [b1], blk a12_l8, [b4], []]) he14
    replace hb1 := he14.box hb1 (fun h => by cases h)
    replace hj10_l8 := hj10_l8.step hst he14 (fun _ _ h => by cases h)
    replace hb4 := he14.box hb4 (fun h => by cases h)
    replace hj12_l8 := hj12_l8.step hst he14 (fun _ _ h => by cases h)
    replace hms := hms.ev he14
    replace hev := hev.ext he14
    have hs14 : SlR (eProd (eInt .i64) (eProd (eInt .i64) (eProd (eInt .i64) (eInt .i64)))) w14 (fl [blk a10_l8, [b1], blk a12_l8, [b4], []]) (some ⟨b14, 0, none⟩) 1 ([(0, Int.tmod (IntKind.i64.wrap ((Int.tmod blocks_1 4) + 4)) 4, 0, 400)] : List (Int × Int × Int × Int)) := ro_of_box hms0 hq14 hb14 rfl rfl (cells_at (cs := [.int .i64 0, .int .i64 (Int.tmod (IntKind.i64.wrap ((Int.tmod blocks_1 4) + 4)) 4), .int .i64 0, .int .i64 400]) (CellsOf.cons (c := [.int .i64 0, .int .i64 (Int.tmod (IntKind.i64.wrap ((Int.tmod blocks_1 4) + 4)) 4), .int .i64 0, .int .i64 400]) ⟨[.int .i64 0], [.int .i64 (Int.tmod (IntKind.i64.wrap ((Int.tmod blocks_1 4) + 4)) 4), .int .i64 0, .int .i64 400], rfl, rfl, ⟨[.int .i64 (Int.tmod (IntKind.i64.wrap ((Int.tmod blocks_1 4) + 4)) 4)], [.int .i64 0, .int .i64 400], rfl, rfl, ⟨[.int .i64 0], [.int .i64 400], rfl, rfl, rfl⟩⟩⟩ CellsOf.nil))
    clear hb14 hms0
    have hg := guard_l h
    replace h := guard_r h
    obtain ⟨a16, c16, w16, hr16, he16, hn16, hw16⟩ := own_append tel25 25 hj10_l8 (mem_flat 0 rfl) hs14 hg
    refine x_builtin (vs := [.slice a10_l8 (d10_l8).length c10_l8, .slice (some ⟨b14, 0, none⟩) (([(0, Int.tmod (IntKind.i64.wrap ((Int.tmod blocks_1 4) + 4)) 4, 0, 400)] : List (Int × Int × Int × Int))).length 1]) _ w16 rfl rfl rfl rfl (run_value _ _ _ _ hr16) ?_
    refine ⟨.inl rfl, ?_⟩
    have hst : Stp (fl [blk a10_l8, [b1], blk a12_l8, [b4], []]) w14 (fl [blk a16, [b1], blk a12_l8, [b4], []]) w16 := Stp.upd 0 he16 rfl (fun b hb => (hn16 b hb).1)
    replace hb1 := he16.box hb1 (hms.apart 1 0 rfl rfl rfl _ (List.mem_singleton.2 rfl))
    replace hb4 := he16.box hb4 (hms.apart 3 0 rfl rfl rfl _ (List.mem_singleton.2 rfl))
    replace hj12_l8 := hj12_l8.step hst he16 (hms.apart 2 0 rfl rfl rfl)
    replace hs14 := hs14.step hst
    replace hms : MS w16 [blk a16, [b1], blk a12_l8, [b4], []] := hms.upd 0 he16 rfl hn16
    have hfr2 : FR w.heap.size [blk a16, [b1], blk a12_l8, [b4]] := hfr.upd 0 rfl hev.size (fun b hb => (hn16 b hb).1)
    replace hev := hev.then he16 (fun b hb => .inr (hfr.at 0 rfl b hb))
    replace hfr := hfr2
    clear hfr2
    replace hj10_l8 := hw16 (fl [blk a16, [b1], blk a12_l8, [b4], []]) hst.new
    clear hw16
    refine x_fieldAddr (xv := .pointer (some ⟨b1, 0, none⟩)) (.pointer (some ⟨b1, 0, none⟩)) rfl rfl rfl (reads_field tfld27_0 _ _) ?_
    obtain ⟨w17, hr17, hb17, he17⟩ := store_box 0 (.slice a16 ((d10_l8 ++ ([(0, Int.tmod (IntKind.i64.wrap ((Int.tmod blocks_1 4) + 4)) 4, 0, 400)] : List (Int × Int × Int × Int)))).length c16) #[.slice a16 ((d10_l8 ++ ([(0, Int.tmod (IntKind.i64.wrap ((Int.tmod blocks_1 4) + 4)) 4, 0, 400)] : List (Int × Int × Int × Int)))).length c16, .int .i64 12] tcell25 hb1 rfl rfl rfl
    refine x_store w17 (xv := .pointer (some ⟨b1, 0, none⟩)) (yv := .slice a16 ((d10_l8 ++ ([(0, Int.tmod (IntKind.i64.wrap ((Int.tmod blocks_1 4) + 4)) 4, 0, 400)] : List (Int × Int × Int × Int)))).length c16) rfl rfl rfl rfl hr17 ?_
    refine ⟨.inl rfl, ?_⟩
    have hst := Stp.ev' (ls := [blk a16, [b1], blk a12_l8, [b4], []]) he17 (mem_flat 1 rfl)
    replace hj10_l8 := hj10_l8.step hst he17 (hms.apart 0 1 rfl rfl rfl)
    replace hb4 := he17.box hb4 (hms.apart 3 1 rfl rfl rfl _ (List.mem_singleton.2 rfl))
    replace hj12_l8 := hj12_l8.step hst he17 (hms.apart 2 1 rfl rfl rfl)
    replace hs14 := hs14.step hst
    replace hms := hms.ev he17
    replace hev := hev.then he17 (fun b hb => .inr (hfr.at 1 rfl b hb))
    replace hb1 := hb17
    refine x_end rfl ?_
    refine k_then ?_
    refine c_norm [(0, .int .i64 (IntKind.i64.wrap (96 - (Int.tmod (IntKind.i64.wrap ((Int.tmod n_0 3) + 3)) 3)))), (1, .int .i64 blocks_1), (5, .pointer (some ⟨b1, 0, none⟩)), (6, .pointer (some ⟨b4, 0, none⟩)), (7, .int .i64 i_s7_l8)] ⟨rfl, rfl, rfl, rfl, rfl, trivial⟩ (fun J => ?_)
    refine c_plain ?_
    refine x_fieldAddr (xv := .pointer (some ⟨b4, 0, none⟩)) (.pointer (some ⟨b4, 1, none⟩)) rfl rfl rfl (reads_field tfld30_1 _ _) ?_
    refine x_load (xv := .pointer (some ⟨b4, 1, none⟩)) (.slice a12_l8 (d12_l8).length c12_l8) rfl rfl rfl (reads_box tcell22 hb4 (fun h => by cases h) 1 _ rfl) ?_
    refine x_buildSlice (vs := [(0, .int .i64 4095)]) #[.int .i64 4095] 3 rfl rfl rfl (by kernel_rfl) (fun b18 w18 hq18 hb18 he18 _ => ?_)
    refine ⟨.inl rfl, ?_⟩
    have hms0 := hms
    have hst := Stp.ext (ls := [blk a16, [b1], blk a12_l8, [b4], []]) he18
    replace hb1 := he18.box hb1 (fun h => by cases h)
    replace hj10_l8 := hj10_l8.step hst he18 (fun _ _ h => by cases h)
    replace hb4 := he18.box hb4 (fun h => by cases h)
    replace hj12_l8 := hj12_l8.step hst he18 (fun _ _ h => by cases h)
    replace hms := hms.ev he18
    replace hev := hev.ext he18
    have hs18 : SlR (eInt .i64) w18 (fl [blk a16, [b1], blk a12_l8, [b4], []]) (some ⟨b18, 0, none⟩) 1 ([4095]) := ro_of_box hms0 hq18 hb18 rfl rfl (cells_at (cs := [.int .i64 4095]) (CellsOf.cons (c := [.int .i64 4095]) rfl CellsOf.nil))
    clear hb18 hms0
    have hg := guard_l h
    replace h := guard_r h
    obtain ⟨a20, c20, w20, hr20, he20, hn20, hw20⟩ := own_append tel22 22 hj12_l8 (mem_flat 2 rfl) hs18 hg
    refine x_builtin (vs := [.slice a12_l8 (d12_l8).length c12_l8, .slice (some ⟨b18, 0, none⟩) ([4095]).length 1]) _ w20 rfl rfl rfl rfl (run_value _ _ _ _ hr20) ?_
    refine ⟨.inl rfl, ?_⟩
    have hst : Stp (fl [blk a16, [b1], blk a12_l8, [b4], []]) w18 (fl [blk a16, [b1], blk a20, [b4], []]) w20 := Stp.upd 2 he20 rfl (fun b hb => (hn20 b hb).1)
    replace hb1 := he20.box hb1 (hms.apart 1 2 rfl rfl rfl _ (List.mem_singleton.2 rfl))
    replace hj10_l8 := hj10_l8.step hst he20 (hms.apart 0 2 rfl rfl rfl)
    replace hb4 := he20.box hb4 (hms.apart 3 2 rfl rfl rfl _ (List.mem_singleton.2 rfl))
    replace hs18 := hs18.step hst
    replace hms : MS w20 [blk a16, [b1], blk a20, [b4], []] := hms.upd 2 he20 rfl hn20
    have hfr2 : FR w.heap.size [blk a16, [b1], blk a20, [b4]] := hfr.upd 2 rfl hev.size (fun b hb => (hn20 b hb).1)
    replace hev := hev.then he20 (fun b hb => .inr (hfr.at 2 rfl b hb))
    replace hfr := hfr2
    clear hfr2
    replace hj12_l8 := hw20 (fl [blk a16, [b1], blk a20, [b4], []]) hst.new
    clear hw20
    refine x_fieldAddr (xv := .pointer (some ⟨b4, 0, none⟩)) (.pointer (some ⟨b4, 1, none⟩)) rfl rfl rfl (reads_field tfld30_1 _ _) ?_
    obtain ⟨w21, hr21, hb21, he21⟩ := store_box 1 (.slice a20 ((d12_l8 ++ [4095])).length c20) #[.int .i64 12, .slice a20 ((d12_l8 ++ [4095])).length c20] tcell22 hb4 rfl rfl rfl
    refine x_store w21 (xv := .pointer (some ⟨b4, 1, none⟩)) (yv := .slice a20 ((d12_l8 ++ [4095])).length c20) rfl rfl rfl rfl hr21 ?_
    refine ⟨.inl rfl, ?_⟩
    have hst := Stp.ev' (ls := [blk a16, [b1], blk a20, [b4], []]) he21 (mem_flat 3 rfl)
    replace hb1 := he21.box hb1 (hms.apart 1 3 rfl rfl rfl _ (List.mem_singleton.2 rfl))
    replace hj10_l8 := hj10_l8.step hst he21 (hms.apart 0 3 rfl rfl rfl)
    replace hj12_l8 := hj12_l8.step hst he21 (hms.apart 2 3 rfl rfl rfl)
    replace hs18 := hs18.step hst
    replace hms := hms.ev he21
    replace hev := hev.then he21 (fun b hb => .inr (hfr.at 3 rfl b hb))
    replace hb4 := hb21
    refine x_end rfl ?_
    refine k_block ?_
    refine k_then ?_
    refine c_norm [(0, .int .i64 (IntKind.i64.wrap (96 - (Int.tmod (IntKind.i64.wrap ((Int.tmod n_0 3) + 3)) 3)))), (1, .int .i64 blocks_1), (5, .pointer (some ⟨b1, 0, none⟩)), (6, .pointer (some ⟨b4, 0, none⟩)), (7, .int .i64 i_s7_l8)] ⟨rfl, rfl, rfl, rfl, rfl, trivial⟩ (fun J => ?_)
    refine c_plain ?_
    refine x_pure 3 [(28, .int .i64 i_s7_l8), (29, .int .i64 (IntKind.i64.wrap (i_s7_l8 + 1))), (7, .int .i64 (IntKind.i64.wrap (i_s7_l8 + 1)))] _ _ _ (by kernel_rfl) ?_
    refine x_end rfl ?_
    have hx := some_inj h
    subst hx
    exact k_then ⟨(m8, (d10_l8 ++ ([(0, Int.tmod (IntKind.i64.wrap ((Int.tmod blocks_1 4) + 4)) 4, 0, 400)] : List (Int × Int × Int × Int))), (d12_l8 ++ [4095]), IntKind.i64.wrap (i_s7_l8 + 1), a16, c16, a20, c20), ⟨rfl, rfl, rfl, rfl, rfl, trivial⟩, ⟨hn8, hev, hms, hfr, hj10_l8, hb1, hj12_l8, hb4⟩, Nat.lt_succ_self _⟩
  · replace h := ite_f hb h
    refine c_exit ?_
    refine k_then_exit ?_
    have hx := some_inj h
    subst hx
    have hy := some_inj hn8
    subst hy
    replace h := h8
    refine k_then_exit ?_
    refine k_block_in ?_
    refine k_then ?_
    refine c_norm [(0, .int .i64 (IntKind.i64.wrap (96 - (Int.tmod (IntKind.i64.wrap ((Int.tmod n_0 3) + 3)) 3)))), (5, .pointer (some ⟨b1, 0, none⟩)), (6, .pointer (some ⟨b4, 0, none⟩))] ⟨rfl, rfl, rfl, trivial⟩ (fun J => ?_)
    refine c_seq ?_
    refine c_plain ?_
    refine x_load (xv := .pointer (some ⟨b1, 0, none⟩)) (.agg #[.slice a10_l8 (d10_l8).length c10_l8, .int .i64 12]) rfl rfl rfl (reads_boxagg 0 [.slice a10_l8 (d10_l8).length c10_l8, .int .i64 12] tagg27 hb1 (fun h => by cases h) rfl) ?_
    refine x_load (xv := .pointer (some ⟨b4, 0, none⟩)) (.agg #[.int .i64 12, .slice a12_l8 (d12_l8).length c12_l8]) rfl rfl rfl (reads_boxagg 0 [.int .i64 12, .slice a12_l8 (d12_l8).length c12_l8] tagg30 hb4 (fun h => by cases h) rfl) ?_
    obtain ⟨x22, hx, h⟩ := bind_some h
    have hpk : MS wl8 ([] ++ [[b1], [b4], []]) := hms.pick [some 1, some 3, some 4] _ rfl
    have hsb0 : ∀ x ∈ fl ([] ++ [[b1], [b4], []]), x ∈ fl [blk a10_l8, [b1], blk a12_l8, [b4], []] := pick_sub [some 1, some 3, some 4] _ rfl
    have hsb : ∀ x ∈ fl ([] ++ [(fl [[b1], [b4], []])]), x ∈ fl [blk a10_l8, [b1], blk a12_l8, [b4], []] := fun x hx => hsb0 x (fl_unfold x hx)
    have hcall := rollin_Run_w a10_l8 c10_l8 d10_l8 12 12 a12_l8 c12_l8 d12_l8 _ wl8 (fl [[b1], [b4], []]) (MS.fold (P := []) hpk) (hj10_l8.ro hsb (fun b hb hb2 => pick_out hms 0 rfl [some 1, some 3, some 4] ([] ++ [[b1], [b4], []]) rfl rfl b hb (fl_unfold b hb2))) (hj12_l8.ro hsb (fun b hb hb2 => pick_out hms 2 rfl [some 1, some 3, some 4] ([] ++ [[b1], [b4], []]) rfl rfl b hb (fl_unfold b hb2))) hx
    refine x_call 14 #[] #[] [.agg #[.slice a10_l8 (d10_l8).length c10_l8, .int .i64 12], .agg #[.int .i64 12, .slice a12_l8 (d12_l8).length c12_l8]] _ rfl rfl rfl rfl hcall ?_
    rintro v w23 ⟨a0_23, c0_23, B2_23, rfl, he23, hmn23, hfn23, hf23_1⟩
    clear hcall hx
    refine ⟨.inl rfl, ?_⟩
    have hpk2 : MS wl8 ([] ++ [blk a10_l8, [b1], blk a12_l8, [b4], []]) := hms.pick [some 0, some 1, some 2, some 3, some 4] _ rfl
    have hsb2 : ∀ x ∈ fl ([] ++ [blk a10_l8, [b1], blk a12_l8, [b4], []]), x ∈ fl [blk a10_l8, [b1], blk a12_l8, [b4], []] := pick_sub [some 0, some 1, some 2, some 3, some 4] _ rfl
    have hst0 := Stp.call (LS := [blk a10_l8, [b1], blk a12_l8, [b4], []]) (res := [B2_23]) (par := []) (R := [blk a10_l8, [b1], blk a12_l8, [b4], []]) he23 (fun b hb => hsb2 b (fl_left' (P := []) b hb)) hfn23 (NP.init _ _) (fun x hx => hsb2 x (fl_right' (P := []) x hx))
    have hsn : ∀ x ∈ fl [B2_23, blk a10_l8, [b1], blk a12_l8, [b4], []], x ∈ fl ([B2_23] ++ ([] ++ [blk a10_l8, [b1], blk a12_l8, [b4], []])) := pick_sub [some 0, some 1, some 2, some 3, some 4, some 5] _ rfl
    have hst := hst0.res hsn
    replace hb1 := he23.box hb1 ((MS.outs (P := []) hpk2 1 rfl) _ (List.mem_singleton.2 rfl))
    replace hj10_l8 := hj10_l8.step hst he23 (MS.outs (P := []) hpk2 0 rfl)
    replace hb4 := he23.box hb4 ((MS.outs (P := []) hpk2 3 rfl) _ (List.mem_singleton.2 rfl))
    replace hj12_l8 := hj12_l8.step hst he23 (MS.outs (P := []) hpk2 2 rfl)
    replace hms : MS w23 [B2_23, blk a10_l8, [b1], blk a12_l8, [b4], []] := (MS.call (P := []) (R := [blk a10_l8, [b1], blk a12_l8, [b4], []]) (res := [B2_23]) (par := []) hpk2 he23 hmn23 hfn23 (NP.init _ _)).pick [some 0, some 1, some 2, some 3, some 4, some 5] _ rfl
    have hfr2 : FR w.heap.size [B2_23, blk a10_l8, [b1], blk a12_l8, [b4]] := (FR.cons (fun b hb => Nat.le_trans hev.size (hfn23.at 0 rfl b hb)) (FR.cons (hfr.at 0 rfl) (FR.cons (hfr.at 1 rfl) (FR.cons (hfr.at 2 rfl) (FR.cons (hfr.at 3 rfl) (FR.nil _))))))
    replace hev := hev.ext he23
    replace hfr := hfr2
    clear hfr2
    clear hpk hsb hsb0 hpk2 hsb2 hst0 hsn hst
    have hpk : MS w23 [blk a10_l8, [b1], blk a12_l8, [b4], []] := hms.pick [some 1, some 2, some 3, some 4, some 5] _ rfl
    have hsu : ∀ x ∈ fl [blk a10_l8, [b1], blk a12_l8, [b4], []], x ∈ fl [B2_23, blk a10_l8, [b1], blk a12_l8, [b4], []] := pick_sub [some 1, some 2, some 3, some 4, some 5] _ rfl
    replace hj10_l8 := hj10_l8.sub hsu
    replace hj12_l8 := hj12_l8.sub hsu
    replace hf23_1 := hf23_1.ro (plain_int _) (pick_out hms 0 rfl [some 1, some 2, some 3, some 4, some 5] [blk a10_l8, [b1], blk a12_l8, [b4], []] rfl rfl)
    replace hms := hpk
    replace hfr : FR w.heap.size [blk a10_l8, [b1], blk a12_l8, [b4]] := hfr.pick [some 1, some 2, some 3, some 4] _ rfl
    clear hpk hsu
    refine x_pure 3 [(45, .tuple #[.agg #[.slice a0_23 (x22.1.1).length c0_23, .int .i64 x22.1.2], .int .i64 x22.2]), (49, .agg #[.slice a0_23 (x22.1.1).length c0_23, .int .i64 x22.1.2]), (50, .int .i64 x22.2)] _ _ _ (by kernel_rfl) ?_
    refine x_alloc (z := .agg #[.slice none 0 0, .int .i64 0]) rfl rfl (by kernel_rfl) (fun b25 w25 hq25 hb25 he25 _ => ?_)
    replace hb25 : w25.heap[b25]? = some (.cells #[.slice none 0 0, .int .i64 0] 34 (0, 0)) := hb25
    refine ⟨.inl rfl, ?_⟩
    have hst := Stp.box (ls := [blk a10_l8, [b1], blk a12_l8, [b4], []]) he25 hq25
    replace hb1 := he25.box hb1 (fun h => by cases h)
    replace hj10_l8 := hj10_l8.step hst he25 (fun _ _ h => by cases h)
    replace hb4 := he25.box hb4 (fun h => by cases h)
    replace hj12_l8 := hj12_l8.step hst he25 (fun _ _ h => by cases h)
    replace hf23_1 := hf23_1.step hst
    replace hms := hms.box he25 hq25 hb25
    replace hfr := hfr.box hev.size hq25
    replace hev := hev.ext he25
    obtain ⟨w27, hr27, hb27, he27⟩ := store_boxagg 0 [.slice a0_23 (x22.1.1).length c0_23, .int .i64 x22.1.2] #[.slice a0_23 (x22.1.1).length c0_23, .int .i64 x22.1.2] tagg34 hb25 rfl rfl rfl
    refine x_store w27 (xv := .pointer (some ⟨b25, 0, none⟩)) (yv := .agg #[.slice a0_23 (x22.1.1).length c0_23, .int .i64 x22.1.2]) rfl rfl rfl rfl hr27 ?_
    refine ⟨.inl rfl, ?_⟩
    have hst := Stp.ev' (ls := [[b25], blk a10_l8, [b1], blk a12_l8, [b4], []]) he27 (mem_flat 0 rfl)
    replace hb1 := he27.box hb1 (hms.apart 2 0 rfl rfl rfl _ (List.mem_singleton.2 rfl))
    replace hj10_l8 := hj10_l8.step hst he27 (hms.apart 1 0 rfl rfl rfl)
    replace hb4 := he27.box hb4 (hms.apart 4 0 rfl rfl rfl _ (List.mem_singleton.2 rfl))
    replace hj12_l8 := hj12_l8.step hst he27 (hms.apart 3 0 rfl rfl rfl)
    replace hf23_1 := hf23_1.step hst
    replace hms := hms.ev he27
    replace hev := hev.then he27 (fun b hb => .inr (hfr.at 0 rfl b hb))
    replace hb25 := hb27
    refine x_pure 1 [(9, .int .i64 x22.2)] _ _ _ (by kernel_rfl) ?_
    refine x_end rfl ?_
    refine k_then ?_
    refine c_norm [(0, .int .i64 (IntKind.i64.wrap (96 - (Int.tmod (IntKind.i64.wrap ((Int.tmod n_0 3) + 3)) 3)))), (5, .pointer (some ⟨b1, 0, none⟩)), (6, .pointer (some ⟨b4, 0, none⟩)), (8, .pointer (some ⟨b25, 0, none⟩)), (9, .int .i64 x22.2)] ⟨rfl, rfl, rfl, rfl, rfl, trivial⟩ (fun J => ?_)
    refine c_seq ?_
    refine c_plain ?_
    refine x_load (xv := .pointer (some ⟨b1, 0, none⟩)) (.agg #[.slice a10_l8 (d10_l8).length c10_l8, .int .i64 12]) rfl rfl rfl (reads_boxagg 0 [.slice a10_l8 (d10_l8).length c10_l8, .int .i64 12] tagg27 hb1 (fun h => by cases h) rfl) ?_
    refine x_load (xv := .pointer (some ⟨b4, 0, none⟩)) (.agg #[.int .i64 12, .slice a12_l8 (d12_l8).length c12_l8]) rfl rfl rfl (reads_boxagg 0 [.int .i64 12, .slice a12_l8 (d12_l8).length c12_l8] tagg30 hb4 (fun h => by cases h) rfl) ?_
    obtain ⟨x28, hx, h⟩ := bind_some h
    have hpk : MS w27 ([] ++ [[b25], [b1], [b4], []]) := hms.pick [some 0, some 2, some 4, some 5] _ rfl
    have hsb0 : ∀ x ∈ fl ([] ++ [[b25], [b1], [b4], []]), x ∈ fl [[b25], blk a10_l8, [b1], blk a12_l8, [b4], []] := pick_sub [some 0, some 2, some 4, some 5] _ rfl
    have hsb : ∀ x ∈ fl ([] ++ [(fl [[b25], [b1], [b4], []])]), x ∈ fl [[b25], blk a10_l8, [b1], blk a12_l8, [b4], []] := fun x hx => hsb0 x (fl_unfold x hx)
    have hcall := rollin_Loads_w a10_l8 c10_l8 d10_l8 12 12 a12_l8 c12_l8 d12_l8 _ w27 (fl [[b25], [b1], [b4], []]) (MS.fold (P := []) hpk) (hj10_l8.ro hsb (fun b hb hb2 => pick_out hms 1 rfl [some 0, some 2, some 4, some 5] ([] ++ [[b25], [b1], [b4], []]) rfl rfl b hb (fl_unfold b hb2))) (hj12_l8.ro hsb (fun b hb hb2 => pick_out hms 3 rfl [some 0, some 2, some 4, some 5] ([] ++ [[b25], [b1], [b4], []]) rfl rfl b hb (fl_unfold b hb2))) hx
    refine x_call 17 #[] #[] [.agg #[.slice a10_l8 (d10_l8).length c10_l8, .int .i64 12], .agg #[.int .i64 12, .slice a12_l8 (d12_l8).length c12_l8]] _ rfl rfl rfl rfl hcall ?_
    rintro v w29 ⟨a0_29, c0_29, rfl, he29, hmn29, hfn29, hf29_1⟩
    clear hcall hx
    refine ⟨.inl rfl, ?_⟩
    have hpk2 : MS w27 ([] ++ [[b25], blk a10_l8, [b1], blk a12_l8, [b4], []]) := hms.pick [some 0, some 1, some 2, some 3, some 4, some 5] _ rfl
    have hsb2 : ∀ x ∈ fl ([] ++ [[b25], blk a10_l8, [b1], blk a12_l8, [b4], []]), x ∈ fl [[b25], blk a10_l8, [b1], blk a12_l8, [b4], []] := pick_sub [some 0, some 1, some 2, some 3, some 4, some 5] _ rfl
    have hst0 := Stp.call (LS := [[b25], blk a10_l8, [b1], blk a12_l8, [b4], []]) (res := [blk a0_29]) (par := []) (R := [[b25], blk a10_l8, [b1], blk a12_l8, [b4], []]) he29 (fun b hb => hsb2 b (fl_left' (P := []) b hb)) hfn29 (NP.init _ _) (fun x hx => hsb2 x (fl_right' (P := []) x hx))
    have hsn : ∀ x ∈ fl [blk a0_29, [b25], blk a10_l8, [b1], blk a12_l8, [b4], []], x ∈ fl ([blk a0_29] ++ ([] ++ [[b25], blk a10_l8, [b1], blk a12_l8, [b4], []])) := pick_sub [some 0, some 1, some 2, some 3, some 4, some 5, some 6] _ rfl
    have hst := hst0.res hsn
    replace hb1 := he29.box hb1 ((MS.outs (P := []) hpk2 2 rfl) _ (List.mem_singleton.2 rfl))
    replace hj10_l8 := hj10_l8.step hst he29 (MS.outs (P := []) hpk2 1 rfl)
    replace hb4 := he29.box hb4 ((MS.outs (P := []) hpk2 4 rfl) _ (List.mem_singleton.2 rfl))
    replace hj12_l8 := hj12_l8.step hst he29 (MS.outs (P := []) hpk2 3 rfl)
    replace hf23_1 := hf23_1.step hst
    replace hb25 := he29.box hb25 ((MS.outs (P := []) hpk2 0 rfl) _ (List.mem_singleton.2 rfl))
    replace hms : MS w29 [blk a0_29, [b25], blk a10_l8, [b1], blk a12_l8, [b4], []] := (MS.call (P := []) (R := [[b25], blk a10_l8, [b1], blk a12_l8, [b4], []]) (res := [blk a0_29]) (par := []) hpk2 he29 hmn29 hfn29 (NP.init _ _)).pick [some 0, some 1, some 2, some 3, some 4, some 5, some 6] _ rfl
    have hfr2 : FR w.heap.size [blk a0_29, [b25], blk a10_l8, [b1], blk a12_l8, [b4]] := (FR.cons (fun b hb => Nat.le_trans hev.size (hfn29.at 0 rfl b hb)) (FR.cons (hfr.at 0 rfl) (FR.cons (hfr.at 1 rfl) (FR.cons (hfr.at 2 rfl) (FR.cons (hfr.at 3 rfl) (FR.cons (hfr.at 4 rfl) (FR.nil _)))))))
    replace hev := hev.ext he29
    replace hfr := hfr2
    clear hfr2
    replace hf29_1 := OwnS.plain (M' := fl [blk a0_29, [b25], blk a10_l8, [b1], blk a12_l8, [b4], []]) (plain_int _) hf29_1
    clear hpk hsb hsb0 hpk2 hsb2 hst0 hsn hst
    have hpk : MS w29 [[b25], blk a10_l8, [b1], blk a12_l8, [b4], []] := hms.pick [some 1, some 2, some 3, some 4, some 5, some 6] _ rfl
    have hsu : ∀ x ∈ fl [[b25], blk a10_l8, [b1], blk a12_l8, [b4], []], x ∈ fl [blk a0_29, [b25], blk a10_l8, [b1], blk a12_l8, [b4], []] := pick_sub [some 1, some 2, some 3, some 4, some 5, some 6] _ rfl
    replace hj10_l8 := hj10_l8.sub hsu
    replace hj12_l8 := hj12_l8.sub hsu
    replace hf23_1 := hf23_1.sub hsu
    replace hf29_1 := hf29_1.ro hsu (pick_out hms 0 rfl [some 1, some 2, some 3, some 4, some 5, some 6] [[b25], blk a10_l8, [b1], blk a12_l8, [b4], []] rfl rfl)
    replace hms := hpk
    replace hfr : FR w.heap.size [[b25], blk a10_l8, [b1], blk a12_l8, [b4]] := hfr.pick [some 1, some 2, some 3, some 4, some 5] _ rfl
    clear hpk hsu
    refine x_pure 5 [(51, .tuple #[.slice a0_29 (x28.1).length c0_29, .int .i64 x28.2]), (55, .slice a0_29 (x28.1).length c0_29), (56, .int .i64 x28.2), (10, .slice a0_29 (x28.1).length c0_29), (11, .int .i64 x28.2)] _ _ _ (by kernel_rfl) ?_
    refine x_end rfl ?_
    refine k_then ?_
    refine c_norm [(0, .int .i64 (IntKind.i64.wrap (96 - (Int.tmod (IntKind.i64.wrap ((Int.tmod n_0 3) + 3)) 3)))), (5, .pointer (some ⟨b1, 0, none⟩)), (6, .pointer (some ⟨b4, 0, none⟩)), (8, .pointer (some ⟨b25, 0, none⟩)), (9, .int .i64 x22.2), (10, .slice a0_29 (x28.1).length c0_29), (11, .int .i64 x28.2)] ⟨rfl, rfl, rfl, rfl, rfl, rfl, rfl, trivial⟩ (fun J => ?_)
    refine c_seq ?_
    refine c_plain ?_
    refine x_load (xv := .pointer (some ⟨b1, 0, none⟩)) (.agg #[.slice a10_l8 (d10_l8).length c10_l8, .int .i64 12]) rfl rfl rfl (reads_boxagg 0 [.slice a10_l8 (d10_l8).length c10_l8, .int .i64 12] tagg27 hb1 (fun h => by cases h) rfl) ?_
    refine x_load (xv := .pointer (some ⟨b4, 0, none⟩)) (.agg #[.int .i64 12, .slice a12_l8 (d12_l8).length c12_l8]) rfl rfl rfl (reads_boxagg 0 [.int .i64 12, .slice a12_l8 (d12_l8).length c12_l8] tagg30 hb4 (fun h => by cases h) rfl) ?_
    obtain ⟨x31, hx, h⟩ := bind_some h
    have hpk : MS w29 ([] ++ [[b25], [b1], [b4], []]) := hms.pick [some 0, some 2, some 4, some 5] _ rfl
    have hsb0 : ∀ x ∈ fl ([] ++ [[b25], [b1], [b4], []]), x ∈ fl [[b25], blk a10_l8, [b1], blk a12_l8, [b4], []] := pick_sub [some 0, some 2, some 4, some 5] _ rfl
    have hsb : ∀ x ∈ fl ([] ++ [(fl [[b25], [b1], [b4], []])]), x ∈ fl [[b25], blk a10_l8, [b1], blk a12_l8, [b4], []] := fun x hx => hsb0 x (fl_unfold x hx)
    have hcall := rollin_Pushes_w a10_l8 c10_l8 d10_l8 12 12 a12_l8 c12_l8 d12_l8 _ w29 (fl [[b25], [b1], [b4], []]) (MS.fold (P := []) hpk) (hj10_l8.ro hsb (fun b hb hb2 => pick_out hms 1 rfl [some 0, some 2, some 4, some 5] ([] ++ [[b25], [b1], [b4], []]) rfl rfl b hb (fl_unfold b hb2))) (hj12_l8.ro hsb (fun b hb hb2 => pick_out hms 3 rfl [some 0, some 2, some 4, some 5] ([] ++ [[b25], [b1], [b4], []]) rfl rfl b hb (fl_unfold b hb2))) hx
    refine x_call 21 #[] #[] [.agg #[.slice a10_l8 (d10_l8).length c10_l8, .int .i64 12], .agg #[.int .i64 12, .slice a12_l8 (d12_l8).length c12_l8]] _ rfl rfl rfl rfl hcall ?_
    rintro v w32 ⟨rfl, he32⟩
    clear hcall hx
    refine ⟨.inl rfl, ?_⟩
    have hst := Stp.ext (ls := [[b25], blk a10_l8, [b1], blk a12_l8, [b4], []]) he32
    replace hb1 := he32.box hb1 (fun h => by cases h)
    replace hj10_l8 := hj10_l8.step hst he32 (fun _ _ h => by cases h)
    replace hb4 := he32.box hb4 (fun h => by cases h)
    replace hj12_l8 := hj12_l8.step hst he32 (fun _ _ h => by cases h)
    replace hf23_1 := hf23_1.step hst
    replace hb25 := he32.box hb25 (fun h => by cases h)
    replace hf29_1 := hf29_1.step hst
    replace hms := hms.ev he32
    replace hev := hev.ext he32
    clear hpk hsb hsb0
    refine x_pure 5 [(57, .tuple #[.int .i64 x31.1, .int .i64 x31.2]), (61, .int .i64 x31.1), (62, .int .i64 x31.2), (12, .int .i64 x31.1), (13, .int .i64 x31.2)] _ _ _ (by kernel_rfl) ?_
    refine x_end rfl ?_
    refine k_then ?_
    refine c_norm [(0, .int .i64 (IntKind.i64.wrap (96 - (Int.tmod (IntKind.i64.wrap ((Int.tmod n_0 3) + 3)) 3)))), (8, .pointer (some ⟨b25, 0, none⟩)), (9, .int .i64 x22.2), (10, .slice a0_29 (x28.1).length c0_29), (11, .int .i64 x28.2), (12, .int .i64 x31.1), (13, .int .i64 x31.2)] ⟨rfl, rfl, rfl, rfl, rfl, rfl, rfl, trivial⟩ (fun J => ?_)
    refine c_seq ?_
    refine c_seq ?_
    refine c_plain ?_
    refine x_pure 3 [(63, .int .i64 x22.2), (64, .bool (x22.2 != 0)), (65, .bool (x22.2 != 0))] _ _ _ (by kernel_rfl) ?_
    refine x_split 65 (x22.2 != 0) rfl (fun hb => ?_) (fun hb => ?_)
    · replace h := ite_t hb h
      refine x_pure 38 [(66, undef), (67, undef), (68, .bool true), (69, .bool true), (70, undef), (71, undef), (72, .bool true), (73, .bool true), (74, undef), (75, undef), (76, undef), (77, undef), (78, undef), (79, .bool true), (80, .bool true), (81, undef), (82, undef), (83, .bool true), (84, .bool true), (85, undef), (86, undef), (87, undef), (88, undef), (89, .bool true), (90, .bool true), (91, undef), (92, undef), (93, undef), (94, undef), (95, undef), (96, undef), (97, undef), (98, .bool true), (99, .bool true), (100, undef), (101, undef), (102, undef), (103, .bool true)] _ _ _ (by kernel_rfl) ?_
      refine x_end rfl ?_
      refine k_then ?_
      refine c_norm [(0, .int .i64 (IntKind.i64.wrap (96 - (Int.tmod (IntKind.i64.wrap ((Int.tmod n_0 3) + 3)) 3)))), (8, .pointer (some ⟨b25, 0, none⟩)), (10, .slice a0_29 (x28.1).length c0_29), (103, .bool true)] ⟨rfl, rfl, rfl, rfl, trivial⟩ (fun J => ?_)
      refine c_true rfl ?_
      refine c_seq ?_
      refine c_plain ?_
      refine x_pure 1 [(4, .bool false)] _ _ _ (by kernel_rfl) ?_
      refine x_end rfl ?_
      refine k_then ?_
      refine c_norm [(4, .bool false)] ⟨rfl, trivial⟩ (fun J => ?_)
      refine c_ret ?_
      refine k_then_ret ?_
      refine r_ret (r_vals [.bool false] ⟨rfl, trivial⟩ ?_)
      have hx := some_inj h
      subst hx
      exact ⟨rfl, hev⟩
    · replace h := ite_f hb h
      refine x_pure 4 [(66, .int .i64 x28.2), (67, .bool (x28.2 != 0)), (68, .bool (x28.2 != 0)), (69, .bool (x28.2 != 0))] _ _ _ (by kernel_rfl) ?_
      refine x_split 69 (x28.2 != 0) rfl (fun hb => ?_) (fun hb => ?_)
      · replace h := ite_t hb h
        refine x_pure 34 [(70, undef), (71, undef), (72, .bool true), (73, .bool true), (74, undef), (75, undef), (76, undef), (77, undef), (78, undef), (79, .bool true), (80, .bool true), (81, undef), (82, undef), (83, .bool true), (84, .bool true), (85, undef), (86, undef), (87, undef), (88, undef), (89, .bool true), (90, .bool true), (91, undef), (92, undef), (93, undef), (94, undef), (95, undef), (96, undef), (97, undef), (98, .bool true), (99, .bool true), (100, undef), (101, undef), (102, undef), (103, .bool true)] _ _ _ (by kernel_rfl) ?_
        refine x_end rfl ?_
        refine k_then ?_
        refine c_norm [(0, .int .i64 (IntKind.i64.wrap (96 - (Int.tmod (IntKind.i64.wrap ((Int.tmod n_0 3) + 3)) 3)))), (8, .pointer (some ⟨b25, 0, none⟩)), (10, .slice a0_29 (x28.1).length c0_29), (103, .bool true)] ⟨rfl, rfl, rfl, rfl, trivial⟩ (fun J => ?_)
        refine c_true rfl ?_
        refine c_seq ?_
        refine c_plain ?_
        refine x_pure 1 [(4, .bool false)] _ _ _ (by kernel_rfl) ?_
        refine x_end rfl ?_
        refine k_then ?_
        refine c_norm [(4, .bool false)] ⟨rfl, trivial⟩ (fun J => ?_)
        refine c_ret ?_
        refine k_then_ret ?_
        refine r_ret (r_vals [.bool false] ⟨rfl, trivial⟩ ?_)
        have hx := some_inj h
        subst hx
        exact ⟨rfl, hev⟩
      · replace h := ite_f hb h
        refine x_pure 4 [(70, .int .i64 x31.2), (71, .bool (x31.2 != 0)), (72, .bool (x31.2 != 0)), (73, .bool (x31.2 != 0))] _ _ _ (by kernel_rfl) ?_
        refine x_split 73 (x31.2 != 0) rfl (fun hb => ?_) (fun hb => ?_)
        · replace h := ite_t hb h
          refine x_pure 30 [(74, undef), (75, undef), (76, undef), (77, undef), (78, undef), (79, .bool true), (80, .bool true), (81, undef), (82, undef), (83, .bool true), (84, .bool true), (85, undef), (86, undef), (87, undef), (88, undef), (89, .bool true), (90, .bool true), (91, undef), (92, undef), (93, undef), (94, undef), (95, undef), (96, undef), (97, undef), (98, .bool true), (99, .bool true), (100, undef), (101, undef), (102, undef), (103, .bool true)] _ _ _ (by kernel_rfl) ?_
          refine x_end rfl ?_
          refine k_then ?_
          refine c_norm [(0, .int .i64 (IntKind.i64.wrap (96 - (Int.tmod (IntKind.i64.wrap ((Int.tmod n_0 3) + 3)) 3)))), (8, .pointer (some ⟨b25, 0, none⟩)), (10, .slice a0_29 (x28.1).length c0_29), (103, .bool true)] ⟨rfl, rfl, rfl, rfl, trivial⟩ (fun J => ?_)
          refine c_true rfl ?_
          refine c_seq ?_
          refine c_plain ?_
          refine x_pure 1 [(4, .bool false)] _ _ _ (by kernel_rfl) ?_
          refine x_end rfl ?_
          refine k_then ?_
          refine c_norm [(4, .bool false)] ⟨rfl, trivial⟩ (fun J => ?_)
          refine c_ret ?_
          refine k_then_ret ?_
          refine r_ret (r_vals [.bool false] ⟨rfl, trivial⟩ ?_)
          have hx := some_inj h
          subst hx
          exact ⟨rfl, hev⟩
        · replace h := ite_f hb h
          refine x_fieldAddr (xv := .pointer (some ⟨b25, 0, none⟩)) (.pointer (some ⟨b25, 1, none⟩)) rfl rfl rfl (reads_field tfld34_1 _ _) ?_
          refine x_load (xv := .pointer (some ⟨b25, 1, none⟩)) (.int .i64 x22.1.2) rfl rfl rfl (reads_box tcell3 hb25 (fun h => by cases h) 1 _ rfl) ?_
          refine x_pure 5 [(76, .int .i64 (IntKind.i64.wrap (96 - (Int.tmod (IntKind.i64.wrap ((Int.tmod n_0 3) + 3)) 3)))), (77, .int .i64 (IntKind.i64.wrap (13 * (IntKind.i64.wrap (96 - (Int.tmod (IntKind.i64.wrap ((Int.tmod n_0 3) + 3)) 3)))))), (78, .bool (x22.1.2 != (IntKind.i64.wrap (13 * (IntKind.i64.wrap (96 - (Int.tmod (IntKind.i64.wrap ((Int.tmod n_0 3) + 3)) 3))))))), (79, .bool (x22.1.2 != (IntKind.i64.wrap (13 * (IntKind.i64.wrap (96 - (Int.tmod (IntKind.i64.wrap ((Int.tmod n_0 3) + 3)) 3))))))), (80, .bool (x22.1.2 != (IntKind.i64.wrap (13 * (IntKind.i64.wrap (96 - (Int.tmod (IntKind.i64.wrap ((Int.tmod n_0 3) + 3)) 3)))))))] _ _ _ (by kernel_rfl) ?_
          refine x_split 80 (x22.1.2 != (IntKind.i64.wrap (13 * (IntKind.i64.wrap (96 - (Int.tmod (IntKind.i64.wrap ((Int.tmod n_0 3) + 3)) 3)))))) rfl (fun hb => ?_) (fun hb => ?_)
          · replace h := ite_t hb h
            refine x_pure 23 [(81, undef), (82, undef), (83, .bool true), (84, .bool true), (85, undef), (86, undef), (87, undef), (88, undef), (89, .bool true), (90, .bool true), (91, undef), (92, undef), (93, undef), (94, undef), (95, undef), (96, undef), (97, undef), (98, .bool true), (99, .bool true), (100, undef), (101, undef), (102, undef), (103, .bool true)] _ _ _ (by kernel_rfl) ?_
            refine x_end rfl ?_
            refine k_then ?_
            refine c_norm [(0, .int .i64 (IntKind.i64.wrap (96 - (Int.tmod (IntKind.i64.wrap ((Int.tmod n_0 3) + 3)) 3)))), (8, .pointer (some ⟨b25, 0, none⟩)), (10, .slice a0_29 (x28.1).length c0_29), (103, .bool true)] ⟨rfl, rfl, rfl, rfl, trivial⟩ (fun J => ?_)
            refine c_true rfl ?_
            refine c_seq ?_
            refine c_plain ?_
            refine x_pure 1 [(4, .bool false)] _ _ _ (by kernel_rfl) ?_
            refine x_end rfl ?_
            refine k_then ?_
            refine c_norm [(4, .bool false)] ⟨rfl, trivial⟩ (fun J => ?_)
            refine c_ret ?_
            refine k_then_ret ?_
            refine r_ret (r_vals [.bool false] ⟨rfl, trivial⟩ ?_)
            have hx := some_inj h
            subst hx
            exact ⟨rfl, hev⟩
          · replace h := ite_f hb h
            refine x_pure 4 [(81, .int .i64 x31.1), (82, .bool (x31.1 != 13)), (83, .bool (x31.1 != 13)), (84, .bool (x31.1 != 13))] _ _ _ (by kernel_rfl) ?_
            refine x_split 84 (x31.1 != 13) rfl (fun hb => ?_) (fun hb => ?_)
            · replace h := ite_t hb h
              refine x_pure 19 [(85, undef), (86, undef), (87, undef), (88, undef), (89, .bool true), (90, .bool true), (91, undef), (92, undef), (93, undef), (94, undef), (95, undef), (96, undef), (97, undef), (98, .bool true), (99, .bool true), (100, undef), (101, undef), (102, undef), (103, .bool true)] _ _ _ (by kernel_rfl) ?_
              refine x_end rfl ?_
              refine k_then ?_
              refine c_norm [(0, .int .i64 (IntKind.i64.wrap (96 - (Int.tmod (IntKind.i64.wrap ((Int.tmod n_0 3) + 3)) 3)))), (8, .pointer (some ⟨b25, 0, none⟩)), (10, .slice a0_29 (x28.1).length c0_29), (103, .bool true)] ⟨rfl, rfl, rfl, rfl, trivial⟩ (fun J => ?_)
              refine c_true rfl ?_
              refine c_seq ?_
              refine c_plain ?_
              refine x_pure 1 [(4, .bool false)] _ _ _ (by kernel_rfl) ?_
              refine x_end rfl ?_
              refine k_then ?_
              refine c_norm [(4, .bool false)] ⟨rfl, trivial⟩ (fun J => ?_)
              refine c_ret ?_
              refine k_then_ret ?_
              refine r_ret (r_vals [.bool false] ⟨rfl, trivial⟩ ?_)
              have hx := some_inj h
              subst hx
              exact ⟨rfl, hev⟩
            · replace h := ite_f hb h
              refine x_fieldAddr (xv := .pointer (some ⟨b25, 0, none⟩)) (.pointer (some ⟨b25, 0, none⟩)) rfl rfl rfl (reads_field tfld34_0 _ _) ?_
              refine x_load (xv := .pointer (some ⟨b25, 0, none⟩)) (.slice a0_23 (x22.1.1).length c0_23) rfl rfl rfl (reads_box tcell32 hb25 (fun h => by cases h) 0 _ rfl) ?_
              refine x_len (vs := [.slice a0_23 (x22.1.1).length c0_23]) (.int .i64 ((x22.1.1).length : Int)) rfl rfl rfl (reads_len tsl32 _ _ _ _ _) ?_
              refine x_pure 3 [(88, .bool (((x22.1.1).length : Int) != 1)), (89, .bool (((x22.1.1).length : Int) != 1)), (90, .bool (((x22.1.1).length : Int) != 1))] _ _ _ (by kernel_rfl) ?_
              refine x_split 90 (((x22.1.1).length : Int) != 1) rfl (fun hb => ?_) (fun hb => ?_)
              · replace h := ite_t hb h
                refine x_pure 13 [(91, undef), (92, undef), (93, undef), (94, undef), (95, undef), (96, undef), (97, undef), (98, .bool true), (99, .bool true), (100, undef), (101, undef), (102, undef), (103, .bool true)] _ _ _ (by kernel_rfl) ?_
                refine x_end rfl ?_
                refine k_then ?_
                refine c_norm [(0, .int .i64 (IntKind.i64.wrap (96 - (Int.tmod (IntKind.i64.wrap ((Int.tmod n_0 3) + 3)) 3)))), (8, .pointer (some ⟨b25, 0, none⟩)), (10, .slice a0_29 (x28.1).length c0_29), (103, .bool true)] ⟨rfl, rfl, rfl, rfl, trivial⟩ (fun J => ?_)
                refine c_true rfl ?_
                refine c_seq ?_
                refine c_plain ?_
                refine x_pure 1 [(4, .bool false)] _ _ _ (by kernel_rfl) ?_
                refine x_end rfl ?_
                refine k_then ?_
                refine c_norm [(4, .bool false)] ⟨rfl, trivial⟩ (fun J => ?_)
                refine c_ret ?_
                refine k_then_ret ?_
                refine r_ret (r_vals [.bool false] ⟨rfl, trivial⟩ ?_)
                have hx := some_inj h
                subst hx
                exact ⟨rfl, hev⟩
              · replace h := ite_f hb h
                refine x_fieldAddr (xv := .pointer (some ⟨b25, 0, none⟩)) (.pointer (some ⟨b25, 0, none⟩)) rfl rfl rfl (reads_field tfld34_0 _ _) ?_
                refine x_load (xv := .pointer (some ⟨b25, 0, none⟩)) (.slice a0_23 (x22.1.1).length c0_23) rfl rfl rfl (reads_box tcell32 hb25 (fun h => by cases h) 0 _ rfl) ?_
                obtain ⟨x34, hx34, h⟩ := bind_some h
                obtain ⟨ad34, cs34, hr34, hc34, hR⟩ := reads_index (Mo := []) tsl32 hf23_1 hx34
                obtain ⟨a35, c35, rfl, hs35⟩ := hR
                refine x_indexAddr (xv := .slice a0_23 (x22.1.1).length c0_23) (yv := .int .i64 0) (.pointer (some ad34)) rfl rfl rfl rfl hr34 ?_
                refine x_load (xv := .pointer (some ad34)) (.slice a35 (x34).length c35) rfl rfl rfl (reads_cell0 tcell22 hc34 (fun _ h => by cases h)) ?_
                refine x_len (vs := [.slice a35 (x34).length c35]) (.int .i64 ((x34).length : Int)) rfl rfl rfl (reads_len tsl22 _ _ _ _ _) ?_
                refine x_pure 4 [(96, .int .i64 (IntKind.i64.wrap (96 - (Int.tmod (IntKind.i64.wrap ((Int.tmod n_0 3) + 3)) 3)))), (97, .bool (((x34).length : Int) != (IntKind.i64.wrap (96 - (Int.tmod (IntKind.i64.wrap ((Int.tmod n_0 3) + 3)) 3))))), (98, .bool (((x34).length : Int) != (IntKind.i64.wrap (96 - (Int.tmod (IntKind.i64.wrap ((Int.tmod n_0 3) + 3)) 3))))), (99, .bool (((x34).length : Int) != (IntKind.i64.wrap (96 - (Int.tmod (IntKind.i64.wrap ((Int.tmod n_0 3) + 3)) 3)))))] _ _ _ (by kernel_rfl) ?_
                refine x_split 99 (((x34).length : Int) != (IntKind.i64.wrap (96 - (Int.tmod (IntKind.i64.wrap ((Int.tmod n_0 3) + 3)) 3)))) rfl (fun hb => ?_) (fun hb => ?_)
                · replace h := ite_t hb h
                  refine x_pure 4 [(100, undef), (101, undef), (102, undef), (103, .bool true)] _ _ _ (by kernel_rfl) ?_
                  refine x_end rfl ?_
                  refine k_then ?_
                  refine c_norm [(0, .int .i64 (IntKind.i64.wrap (96 - (Int.tmod (IntKind.i64.wrap ((Int.tmod n_0 3) + 3)) 3)))), (8, .pointer (some ⟨b25, 0, none⟩)), (10, .slice a0_29 (x28.1).length c0_29), (103, .bool true)] ⟨rfl, rfl, rfl, rfl, trivial⟩ (fun J => ?_)
                  refine c_true rfl ?_
                  refine c_seq ?_
                  refine c_plain ?_
                  refine x_pure 1 [(4, .bool false)] _ _ _ (by kernel_rfl) ?_
                  refine x_end rfl ?_
                  refine k_then ?_
                  refine c_norm [(4, .bool false)] ⟨rfl, trivial⟩ (fun J => ?_)
                  refine c_ret ?_
                  refine k_then_ret ?_
                  refine r_ret (r_vals [.bool false] ⟨rfl, trivial⟩ ?_)
                  have hx := some_inj h
                  subst hx
                  exact ⟨rfl, hev⟩
                · replace h := ite_f hb h
                  refine x_pure 1 [(100, .slice a0_29 (x28.1).length c0_29)] _ _ _ (by kernel_rfl) ?_
                  refine x_len (vs := [.slice a0_29 (x28.1).length c0_29]) (.int .i64 ((x28.1).length : Int)) rfl rfl rfl (reads_len tsl22 _ _ _ _ _) ?_
                  refine x_pure 2 [(102, .bool (((x28.1).length : Int) != 13)), (103, .bool (((x28.1).length : Int) != 13))] _ _ _ (by kernel_rfl) ?_
                  refine x_end rfl ?_
                  refine k_then ?_
                  refine c_norm [(0, .int .i64 (IntKind.i64.wrap (96 - (Int.tmod (IntKind.i64.wrap ((Int.tmod n_0 3) + 3)) 3)))), (8, .pointer (some ⟨b25, 0, none⟩)), (10, .slice a0_29 (x28.1).length c0_29), (103, .bool (((x28.1).length : Int) != 13))] ⟨rfl, rfl, rfl, rfl, trivial⟩ (fun J => ?_)
                  refine c_cond (((x28.1).length : Int) != 13) rfl (fun hb => ?_) (fun hb => ?_)
                  · replace h := ite_t hb h
                    refine c_seq ?_
                    refine c_plain ?_
                    refine x_pure 1 [(4, .bool false)] _ _ _ (by kernel_rfl) ?_
                    refine x_end rfl ?_
                    refine k_then ?_
                    refine c_norm [(4, .bool false)] ⟨rfl, trivial⟩ (fun J => ?_)
                    refine c_ret ?_
                    refine k_then_ret ?_
                    refine r_ret (r_vals [.bool false] ⟨rfl, trivial⟩ ?_)
                    have hx := some_inj h
                    subst hx
                    exact ⟨rfl, hev⟩
                  · replace h := ite_f hb h
                    refine c_skip ?_
                    refine k_then ?_
                    refine c_norm [(0, .int .i64 (IntKind.i64.wrap (96 - (Int.tmod (IntKind.i64.wrap ((Int.tmod n_0 3) + 3)) 3)))), (8, .pointer (some ⟨b25, 0, none⟩)), (10, .slice a0_29 (x28.1).length c0_29)] ⟨rfl, rfl, rfl, trivial⟩ (fun J => ?_)
                    refine c_seq ?_
                    refine c_seq ?_
                    refine c_plain ?_
                    refine x_fieldAddr (xv := .pointer (some ⟨b25, 0, none⟩)) (.pointer (some ⟨b25, 0, none⟩)) rfl rfl rfl (reads_field tfld34_0 _ _) ?_
                    refine x_load (xv := .pointer (some ⟨b25, 0, none⟩)) (.slice a0_23 (x22.1.1).length c0_23) rfl rfl rfl (reads_box tcell32 hb25 (fun h => by cases h) 0 _ rfl) ?_
                    obtain ⟨x39, hx39, h⟩ := bind_some h
                    obtain ⟨ad39, cs39, hr39, hc39, hR⟩ := reads_index (Mo := []) tsl32 hf23_1 hx39
                    obtain ⟨a40, c40, rfl, hs40⟩ := hR
                    refine x_indexAddr (xv := .slice a0_23 (x22.1.1).length c0_23) (yv := .int .i64 0) (.pointer (some ad39)) rfl rfl rfl rfl hr39 ?_
                    refine x_load (xv := .pointer (some ad39)) (.slice a40 (x39).length c40) rfl rfl rfl (reads_cell0 tcell22 hc39 (fun _ h => by cases h)) ?_
                    refine x_len (vs := [.slice a40 (x39).length c40]) (.int .i64 ((x39).length : Int)) rfl rfl rfl (reads_len tsl22 _ _ _ _ _) ?_
                    refine x_pure 1 [(109, .int .i64 0)] _ _ _ (by kernel_rfl) ?_
                    refine x_end rfl ?_
                    refine k_then ?_
                    refine c_norm [(0, .int .i64 (IntKind.i64.wrap (96 - (Int.tmod (IntKind.i64.wrap ((Int.tmod n_0 3) + 3)) 3)))), (10, .slice a0_29 (x28.1).length c0_29), (107, .slice a40 (x39).length c40), (108, .int .i64 ((x39).length : Int)), (109, .int .i64 0)] ⟨rfl, rfl, rfl, rfl, rfl, trivial⟩ (fun J => ?_)
                    refine c_block ?_
                    have hpk : MS w32 [[]] := hms.pick [some 5] _ rfl
                    have hsu : ∀ x ∈ fl [[]], x ∈ fl [[b25], blk a10_l8, [b1], blk a12_l8, [b4], []] := pick_sub [some 5] _ rfl
                    replace hf29_1 := hf29_1.sub hsu
                    replace hs40 := hs40.sub hsu
                    replace hms := hpk
                    replace hfr : FR w.heap.size [] := hfr.pick [] _ rfl
                    clear hpk hsu
                    obtain ⟨d43, hd43, h43⟩ := bind_some h
                    obtain ⟨m43, hd43⟩ := loop_some hd43
                    refine c_loop (loop_rule hmx (σ := Nat × Int) (fun s => match s with | (_, t109__s109_l43) => [(0, .int .i64 (IntKind.i64.wrap (96 - (Int.tmod (IntKind.i64.wrap ((Int.tmod n_0 3) + 3)) 3)))), (10, .slice a0_29 (x28.1).length c0_29), (107, .slice a40 (x39).length c40), (108, .int .i64 ((x39).length : Int)), (109, .int .i64 t109__s109_l43)]) (fun s w' => match s with | (m, t109__s109_l43) => loopN (law14_RollinAll_L43 x39) m t109__s109_l43 = some d43 ∧ Ev [] w w' ∧ MS w' [[]] ∧ FR w.heap.size [] ∧ SlR (eInt .i64) w' (fl [[]]) a0_29 c0_29 x28.1 ∧ SlR (eInt .i64) w' (fl [[]]) a40 c40 x39) (fun s => s.1) (m43, 0) ⟨rfl, rfl, rfl, rfl, rfl, trivial⟩ ⟨hd43, hev, hms, hfr, hf29_1, hs40⟩ ?_)
                    rintro ⟨m43, t109__s109_l43⟩ J wl43 ⟨hn43, hev, hms, hfr, hf29_1, hs40⟩
                    rcases m43 with _ | m43
                    · exact (loopN_zero hn43).elim
                    obtain ⟨t43, h, hn43⟩ := bind_some hn43
                    refine c_seq ?_
                    refine c_plain ?_
                    refine x_pure 1 [(110, .bool (decide (t109__s109_l43 < ((x39).length : Int))))] _ _ _ (by kernel_rfl) ?_
                    refine x_end rfl ?_
                    refine k_then ?_
                    refine c_norm [(0, .int .i64 (IntKind.i64.wrap (96 - (Int.tmod (IntKind.i64.wrap ((Int.tmod n_0 3) + 3)) 3)))), (10, .slice a0_29 (x28.1).length c0_29), (107, .slice a40 (x39).length c40), (108, .int .i64 ((x39).length : Int)), (109, .int .i64 t109__s109_l43), (110, .bool (decide (t109__s109_l43 < ((x39).length : Int))))] ⟨rfl, rfl, rfl, rfl, rfl, rfl, trivial⟩ (fun J => ?_)
                    refine c_seq ?_
                    refine c_cond (decide (t109__s109_l43 < ((x39).length : Int))) rfl (fun hb => ?_) (fun hb => ?_)
                    · replace h := ite_t hb h
                      refine c_skip ?_
                      refine k_then ?_
                      refine c_norm [(0, .int .i64 (IntKind.i64.wrap (96 - (Int.tmod (IntKind.i64.wrap ((Int.tmod n_0 3) + 3)) 3)))), (10, .slice a0_29 (x28.1).length c0_29), (107, .slice a40 (x39).length c40), (108, .int .i64 ((x39).length : Int)), (109, .int .i64 t109__s109_l43)] ⟨rfl, rfl, rfl, rfl, rfl, trivial⟩ (fun J => ?_)
                      refine c_seq ?_
                      refine c_block ?_
                      refine c_seq ?_
                      refine c_plain ?_
                      refine x_pure 1 [(111, .int .i64 t109__s109_l43)] _ _ _ (by kernel_rfl) ?_
                      obtain ⟨x45, hx45, h⟩ := bind_some h
                      obtain ⟨ad45, cs45, hr45, hc45, hR⟩ := reads_index (Mo := []) tsl22 hs40 hx45
                      obtain rfl := hR
                      refine x_indexAddr (xv := .slice a40 (x39).length c40) (yv := .int .i64 t109__s109_l43) (.pointer (some ad45)) rfl rfl rfl rfl hr45 ?_
                      refine x_load (xv := .pointer (some ad45)) (.int .i64 x45) rfl rfl rfl (reads_cell0 tcell3 hc45 (fun _ h => by cases h)) ?_
                      refine x_pure 2 [(14, .int .i64 t109__s109_l43), (15, .int .i64 x45)] _ _ _ (by kernel_rfl) ?_
                      refine x_end rfl ?_
                      refine k_then ?_
                      refine c_norm [(0, .int .i64 (IntKind.i64.wrap (96 - (Int.tmod (IntKind.i64.wrap ((Int.tmod n_0 3) + 3)) 3)))), (10, .slice a0_29 (x28.1).length c0_29), (14, .int .i64 t109__s109_l43), (15, .int .i64 x45), (107, .slice a40 (x39).length c40), (108, .int .i64 ((x39).length : Int)), (109, .int .i64 t109__s109_l43)] ⟨rfl, rfl, rfl, rfl, rfl, rfl, rfl, trivial⟩ (fun J => ?_)
                      refine c_seq ?_
                      refine c_plain ?_
                      refine x_pure 3 [(114, .int .i64 x45), (115, .int .i64 t109__s109_l43), (116, .bool (x45 != t109__s109_l43))] _ _ _ (by kernel_rfl) ?_
                      refine x_end rfl ?_
                      refine k_then ?_
                      refine c_norm [(0, .int .i64 (IntKind.i64.wrap (96 - (Int.tmod (IntKind.i64.wrap ((Int.tmod n_0 3) + 3)) 3)))), (10, .slice a0_29 (x28.1).length c0_29), (107, .slice a40 (x39).length c40), (108, .int .i64 ((x39).length : Int)), (109, .int .i64 t109__s109_l43), (116, .bool (x45 != t109__s109_l43))] ⟨rfl, rfl, rfl, rfl, rfl, rfl, trivial⟩ (fun J => ?_)
                      refine c_cond (x45 != t109__s109_l43) rfl (fun hb => ?_) (fun hb => ?_)
                      · replace h := ite_t hb h
                        refine c_seq ?_
                        refine c_plain ?_
                        refine x_pure 1 [(4, .bool false)] _ _ _ (by kernel_rfl) ?_
                        refine x_end rfl ?_
                        refine k_then ?_
                        refine c_norm [(4, .bool false)] ⟨rfl, trivial⟩ (fun J => ?_)
                        refine c_ret ?_
                        refine k_block_ret ?_
                        refine k_then_ret ?_
                        have hx := some_inj h
                        subst hx
                        have hy := some_inj hn43
                        subst hy
                        replace h := h43
                        refine k_then_ret ?_
                        refine k_block_ret ?_
                        refine k_then_ret ?_
                        refine r_ret (r_vals [.bool false] ⟨rfl, trivial⟩ ?_)
                        have hx := some_inj h
                        subst hx
                        exact ⟨rfl, hev⟩
                      · replace h := ite_f hb h
                        refine c_skip ?_
                        refine k_block ?_
                        refine k_then ?_
                        refine c_norm [(0, .int .i64 (IntKind.i64.wrap (96 - (Int.tmod (IntKind.i64.wrap ((Int.tmod n_0 3) + 3)) 3)))), (10, .slice a0_29 (x28.1).length c0_29), (107, .slice a40 (x39).length c40), (108, .int .i64 ((x39).length : Int)), (109, .int .i64 t109__s109_l43)] ⟨rfl, rfl, rfl, rfl, rfl, trivial⟩ (fun J => ?_)
                        refine c_plain ?_
                        refine x_pure 2 [(117, .int .i64 (IntKind.i64.wrap (t109__s109_l43 + 1))), (109, .int .i64 (IntKind.i64.wrap (t109__s109_l43 + 1)))] _ _ _ (by kernel_rfl) ?_
                        refine x_end rfl ?_
                        have hx := some_inj h
                        subst hx
                        exact k_then ⟨(m43, IntKind.i64.wrap (t109__s109_l43 + 1)), ⟨rfl, rfl, rfl, rfl, rfl, trivial⟩, ⟨hn43, hev, hms, hfr, hf29_1, hs40⟩, Nat.lt_succ_self _⟩
                    · replace h := ite_f hb h
                      refine c_exit ?_
                      refine k_then_exit ?_
                      have hx := some_inj h
                      subst hx
                      have hy := some_inj hn43
                      subst hy
                      replace h := h43
                      refine k_then_exit ?_
                      refine k_block_in ?_
                      refine k_then ?_
                      refine c_norm [(0, .int .i64 (IntKind.i64.wrap (96 - (Int.tmod (IntKind.i64.wrap ((Int.tmod n_0 3) + 3)) 3)))), (10, .slice a0_29 (x28.1).length c0_29)] ⟨rfl, rfl, trivial⟩ (fun J => ?_)
                      refine c_seq ?_
                      refine c_seq ?_
                      refine c_plain ?_
                      refine x_pure 1 [(118, .slice a0_29 (x28.1).length c0_29)] _ _ _ (by kernel_rfl) ?_
                      refine x_len (vs := [.slice a0_29 (x28.1).length c0_29]) (.int .i64 ((x28.1).length : Int)) rfl rfl rfl (reads_len tsl22 _ _ _ _ _) ?_
                      refine x_pure 1 [(120, .int .i64 0)] _ _ _ (by kernel_rfl) ?_
                      refine x_end rfl ?_
                      refine k_then ?_
                      refine c_norm [(0, .int .i64 (IntKind.i64.wrap (96 - (Int.tmod (IntKind.i64.wrap ((Int.tmod n_0 3) + 3)) 3)))), (118, .slice a0_29 (x28.1).length c0_29), (119, .int .i64 ((x28.1).length : Int)), (120, .int .i64 0)] ⟨rfl, rfl, rfl, rfl, trivial⟩ (fun J => ?_)
                      refine c_block ?_
                      obtain ⟨d47, hd47, h47⟩ := bind_some h
                      obtain ⟨m47, hd47⟩ := loop_some hd47
                      refine c_loop (loop_rule hmx (σ := Nat × Int) (fun s => match s with | (_, t120__s120_l47) => [(0, .int .i64 (IntKind.i64.wrap (96 - (Int.tmod (IntKind.i64.wrap ((Int.tmod n_0 3) + 3)) 3)))), (118, .slice a0_29 (x28.1).length c0_29), (119, .int .i64 ((x28.1).length : Int)), (120, .int .i64 t120__s120_l47)]) (fun s w' => match s with | (m, t120__s120_l47) => loopN (law14_RollinAll_L47 n_0 x28) m t120__s120_l47 = some d47 ∧ Ev [] w w' ∧ MS w' [[]] ∧ FR w.heap.size [] ∧ SlR (eInt .i64) w' (fl [[]]) a0_29 c0_29 x28.1) (fun s => s.1) (m47, 0) ⟨rfl, rfl, rfl, rfl, trivial⟩ ⟨hd47, hev, hms, hfr, hf29_1⟩ ?_)
                      rintro ⟨m47, t120__s120_l47⟩ J wl47 ⟨hn47, hev, hms, hfr, hf29_1⟩
                      rcases m47 with _ | m47
                      · exact (loopN_zero hn47).elim
                      obtain ⟨t47, h, hn47⟩ := bind_some hn47
                      refine c_seq ?_
                      refine c_plain ?_
                      refine x_pure 1 [(121, .bool (decide (t120__s120_l47 < ((x28.1).length : Int))))] _ _ _ (by kernel_rfl) ?_
                      refine x_end rfl ?_
                      refine k_then ?_
                      refine c_norm [(0, .int .i64 (IntKind.i64.wrap (96 - (Int.tmod (IntKind.i64.wrap ((Int.tmod n_0 3) + 3)) 3)))), (118, .slice a0_29 (x28.1).length c0_29), (119, .int .i64 ((x28.1).length : Int)), (120, .int .i64 t120__s120_l47), (121, .bool (decide (t120__s120_l47 < ((x28.1).length : Int))))] ⟨rfl, rfl, rfl, rfl, rfl, trivial⟩ (fun J => ?_)
                      refine c_seq ?_
                      refine c_cond (decide (t120__s120_l47 < ((x28.1).length : Int))) rfl (fun hb => ?_) (fun hb => ?_)
                      · replace h := ite_t hb h
                        refine c_skip ?_
                        refine k_then ?_
                        refine c_norm [(0, .int .i64 (IntKind.i64.wrap (96 - (Int.tmod (IntKind.i64.wrap ((Int.tmod n_0 3) + 3)) 3)))), (118, .slice a0_29 (x28.1).length c0_29), (119, .int .i64 ((x28.1).length : Int)), (120, .int .i64 t120__s120_l47)] ⟨rfl, rfl, rfl, rfl, trivial⟩ (fun J => ?_)
                        refine c_seq ?_
                        refine c_block ?_
                        refine c_seq ?_
                        refine c_plain ?_
                        obtain ⟨x49, hx49, h⟩ := bind_some h
                        obtain ⟨ad49, cs49, hr49, hc49, hR⟩ := reads_index (Mo := []) tsl22 hf29_1 hx49
                        obtain rfl := hR
                        refine x_indexAddr (xv := .slice a0_29 (x28.1).length c0_29) (yv := .int .i64 t120__s120_l47) (.pointer (some ad49)) rfl rfl rfl rfl hr49 ?_
                        refine x_load (xv := .pointer (some ad49)) (.int .i64 x49) rfl rfl rfl (reads_cell0 tcell3 hc49 (fun _ h => by cases h)) ?_
                        refine x_pure 1 [(17, .int .i64 x49)] _ _ _ (by kernel_rfl) ?_
                        refine x_end rfl ?_
                        refine k_then ?_
                        refine c_norm [(0, .int .i64 (IntKind.i64.wrap (96 - (Int.tmod (IntKind.i64.wrap ((Int.tmod n_0 3) + 3)) 3)))), (17, .int .i64 x49), (118, .slice a0_29 (x28.1).length c0_29), (119, .int .i64 ((x28.1).length : Int)), (120, .int .i64 t120__s120_l47)] ⟨rfl, rfl, rfl, rfl, rfl, trivial⟩ (fun J => ?_)
                        refine c_seq ?_
                        refine c_plain ?_
                        refine x_pure 4 [(124, .int .i64 x49), (125, .int .i64 (IntKind.i64.wrap (96 - (Int.tmod (IntKind.i64.wrap ((Int.tmod n_0 3) + 3)) 3)))), (126, .int .i64 (IntKind.i64.wrap ((IntKind.i64.wrap (96 - (Int.tmod (IntKind.i64.wrap ((Int.tmod n_0 3) + 3)) 3))) * 400))), (127, .bool (x49 != (IntKind.i64.wrap ((IntKind.i64.wrap (96 - (Int.tmod (IntKind.i64.wrap ((Int.tmod n_0 3) + 3)) 3))) * 400))))] _ _ _ (by kernel_rfl) ?_
                        refine x_end rfl ?_
                        refine k_then ?_
                        refine c_norm [(0, .int .i64 (IntKind.i64.wrap (96 - (Int.tmod (IntKind.i64.wrap ((Int.tmod n_0 3) + 3)) 3)))), (118, .slice a0_29 (x28.1).length c0_29), (119, .int .i64 ((x28.1).length : Int)), (120, .int .i64 t120__s120_l47), (127, .bool (x49 != (IntKind.i64.wrap ((IntKind.i64.wrap (96 - (Int.tmod (IntKind.i64.wrap ((Int.tmod n_0 3) + 3)) 3))) * 400))))] ⟨rfl, rfl, rfl, rfl, rfl, trivial⟩ (fun J => ?_)
                        refine c_cond (x49 != (IntKind.i64.wrap ((IntKind.i64.wrap (96 - (Int.tmod (IntKind.i64.wrap ((Int.tmod n_0 3) + 3)) 3))) * 400))) rfl (fun hb => ?_) (fun hb => ?_)
                        · replace h := ite_t hb h
                          refine c_seq ?_
                          refine c_plain ?_
                          refine x_pure 1 [(4, .bool false)] _ _ _ (by kernel_rfl) ?_
                          refine x_end rfl ?_
                          refine k_then ?_
                          refine c_norm [(4, .bool false)] ⟨rfl, trivial⟩ (fun J => ?_)
                          refine c_ret ?_
                          refine k_block_ret ?_
                          refine k_then_ret ?_
                          have hx := some_inj h
                          subst hx
                          have hy := some_inj hn47
                          subst hy
                          replace h := h47
                          refine k_then_ret ?_
                          refine k_block_ret ?_
                          refine k_then_ret ?_
                          refine r_ret (r_vals [.bool false] ⟨rfl, trivial⟩ ?_)
                          have hx := some_inj h
                          subst hx
                          exact ⟨rfl, hev⟩
                        · replace h := ite_f hb h
                          refine c_skip ?_
                          refine k_block ?_
                          refine k_then ?_
                          refine c_norm [(0, .int .i64 (IntKind.i64.wrap (96 - (Int.tmod (IntKind.i64.wrap ((Int.tmod n_0 3) + 3)) 3)))), (118, .slice a0_29 (x28.1).length c0_29), (119, .int .i64 ((x28.1).length : Int)), (120, .int .i64 t120__s120_l47)] ⟨rfl, rfl, rfl, rfl, trivial⟩ (fun J => ?_)
                          refine c_plain ?_
                          refine x_pure 2 [(128, .int .i64 (IntKind.i64.wrap (t120__s120_l47 + 1))), (120, .int .i64 (IntKind.i64.wrap (t120__s120_l47 + 1)))] _ _ _ (by kernel_rfl) ?_
                          refine x_end rfl ?_
                          have hx := some_inj h
                          subst hx
                          exact k_then ⟨(m47, IntKind.i64.wrap (t120__s120_l47 + 1)), ⟨rfl, rfl, rfl, rfl, trivial⟩, ⟨hn47, hev, hms, hfr, hf29_1⟩, Nat.lt_succ_self _⟩
                      · replace h := ite_f hb h
                        refine c_exit ?_
                        refine k_then_exit ?_
                        have hx := some_inj h
                        subst hx
                        have hy := some_inj hn47
                        subst hy
                        replace h := h47
                        refine k_then_exit ?_
                        refine k_block_in ?_
                        refine k_then ?_
                        refine c_norm [] trivial (fun J => ?_)
                        refine c_seq ?_
                        refine c_plain ?_
                        obtain ⟨x51, hx, h⟩ := bind_some h
                        have hcall := law14_sane_w _ wl47 hx
                        refine x_call 15 #[] #[] [] _ rfl rfl rfl rfl hcall ?_
                        rintro v w52 ⟨rfl, he52⟩
                        clear hcall hx
                        refine ⟨.inl rfl, ?_⟩
                        replace hms := hms.ev he52
                        replace hev := hev.ext he52
                        refine x_pure 1 [(4, .bool x51)] _ _ _ (by kernel_rfl) ?_
                        refine x_end rfl ?_
                        refine k_then ?_
                        refine c_norm [(4, .bool x51)] ⟨rfl, trivial⟩ (fun J => ?_)
                        refine c_ret ?_
                        refine r_ret (r_vals [.bool x51] ⟨rfl, trivial⟩ ?_)
                        have hx := some_inj h
                        subst hx
                        exact ⟨rfl, hev⟩
end Go.Proofs.Ytmjobkpgnhbcbaa
