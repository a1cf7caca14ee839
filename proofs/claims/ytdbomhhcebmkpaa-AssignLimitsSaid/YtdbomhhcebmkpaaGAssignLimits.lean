/- Walks, printed by program: each function returns what the partial function of the same name returns. Conditions: those of each theorem. -/
import Derived.Test.YtdbomhhcebmkpaaGT
import Derived.Test.YtdbomhhcebmkpaaGassign
import Derived.Test.YtdbomhhcebmkpaaGlaw16sane
set_option linter.unusedVariables false
set_option linter.unusedSimpArgs false
set_option maxRecDepth 4000
namespace Go.Proofs.Ytdbomhhcebmkpaa
open Go Go.V Go.Proofs
def law16_AssignLimits_J33 (p0 : Int) (p1 : Int) (p2 : Int) (d3_x7 : List Int) (d5_x14 : List Int) (x20 : Int) (x28 : (List Int) × (List Int) × Int) (t65__s65_j33 : Bool) : Option Bool :=
(if t65__s65_j33 = true then
(if (x28.2.2 == 3) = true then
(if ((IntKind.i64.wrap (((x28.1).length : Int) + ((x28.2.1).length : Int))) == 0) = true then
((law16_sane).bind fun x34 =>
some x34)
else
some false)
else
some false)
else
(if (decide ((Int.tmod (IntKind.i64.wrap ((Int.tmod p2 2) + 2)) 2) > 0)) = true then
(if (x28.2.2 == 2) = true then
(if ((IntKind.i64.wrap (((x28.1).length : Int) + ((x28.2.1).length : Int))) == 0) = true then
((law16_sane).bind fun x36 =>
some x36)
else
some false)
else
some false)
else
(if (decide ((IntKind.i64.wrap (31 + (Int.tmod (IntKind.i64.wrap ((Int.tmod p0 3) + 3)) 3))) > (IntKind.i64.wrap (31 + (Int.tmod (IntKind.i64.wrap ((Int.tmod p1 3) + 3)) 3))))) = true then
(if (x28.2.2 == 14) = true then
(if (((x28.1).length : Int) == 0) = true then
(if (((x28.2.1).length : Int) == (IntKind.i64.wrap ((IntKind.i64.wrap (31 + (Int.tmod (IntKind.i64.wrap ((Int.tmod p1 3) + 3)) 3))) + 1))) = true then
((assign_Refuses (d3_x7.set (Int.toNat (IntKind.i64.wrap (Int.tdiv (IntKind.i64.wrap (31 + (Int.tmod (IntKind.i64.wrap ((Int.tmod p0 3) + 3)) 3))) 2))) (IntKind.i64.wrap (x20 + (Int.tmod (IntKind.i64.wrap ((Int.tmod p2 2) + 2)) 2)))) d5_x14 x28.2.1).bind fun x38 =>
(if x38 = true then
((law16_sane).bind fun x40 =>
some x40)
else
some false))
else
some false)
else
some false)
else
some false)
else
(if (x28.2.2 == 0) = true then
(if (((x28.2.1).length : Int) == 0) = true then
((assign_Fits (d3_x7.set (Int.toNat (IntKind.i64.wrap (Int.tdiv (IntKind.i64.wrap (31 + (Int.tmod (IntKind.i64.wrap ((Int.tmod p0 3) + 3)) 3))) 2))) (IntKind.i64.wrap (x20 + (Int.tmod (IntKind.i64.wrap ((Int.tmod p2 2) + 2)) 2)))) d5_x14 x28.1).bind fun x42 =>
(if x42 = true then
((law16_sane).bind fun x44 =>
some x44)
else
some false))
else
some false)
else
some false))))

def law16_AssignLimits_L14 (p1 : Int) (s : (List Int) × Int) : Option (Step ((List Int) × Int) (List Int)) :=
match s with
| (d5_l14, t43__s43_l14) =>
(if (decide (t43__s43_l14 < (((List.replicate (Int.toNat (IntKind.i64.wrap (31 + (Int.tmod (IntKind.i64.wrap ((Int.tmod p1 3) + 3)) 3)))) 0 : List Int)).length : Int))) = true then
((idx d5_l14 t43__s43_l14).bind fun x15 =>
some (.next ((d5_l14.set (Int.toNat t43__s43_l14) 38400), IntKind.i64.wrap (t43__s43_l14 + 1))))
else
some (.done d5_l14))

def law16_AssignLimits_L7 (p0 : Int) (s : (List Int) × Int) : Option (Step ((List Int) × Int) (List Int)) :=
match s with
| (d3_l7, t34__s34_l7) =>
(if (decide (t34__s34_l7 < (((List.replicate (Int.toNat (IntKind.i64.wrap (31 + (Int.tmod (IntKind.i64.wrap ((Int.tmod p0 3) + 3)) 3)))) 0 : List Int)).length : Int))) = true then
((idx d3_l7 t34__s34_l7).bind fun x8 =>
some (.next ((d3_l7.set (Int.toNat t34__s34_l7) 38400), IntKind.i64.wrap (t34__s34_l7 + 1))))
else
some (.done d3_l7))

def law16_AssignLimits_J1 (p0 : Int) (p1 : Int) (p2 : Int) : Option Bool :=
((loop (law16_AssignLimits_L7 p0) ((List.replicate (Int.toNat (IntKind.i64.wrap (31 + (Int.tmod (IntKind.i64.wrap ((Int.tmod p0 3) + 3)) 3)))) 0 : List Int), 0)).bind fun d => match d with
| d3_x7 => ((loop (law16_AssignLimits_L14 p1) ((List.replicate (Int.toNat (IntKind.i64.wrap (31 + (Int.tmod (IntKind.i64.wrap ((Int.tmod p1 3) + 3)) 3)))) 0 : List Int), 0)).bind fun d => match d with
| d5_x14 => ((idx d3_x7 (IntKind.i64.wrap (Int.tdiv (IntKind.i64.wrap (31 + (Int.tmod (IntKind.i64.wrap ((Int.tmod p0 3) + 3)) 3))) 2))).bind fun x20 =>
((idx d3_x7 (IntKind.i64.wrap (Int.tdiv (IntKind.i64.wrap (31 + (Int.tmod (IntKind.i64.wrap ((Int.tmod p0 3) + 3)) 3))) 2))).bind fun x23 =>
((assign_Match (d3_x7.set (Int.toNat (IntKind.i64.wrap (Int.tdiv (IntKind.i64.wrap (31 + (Int.tmod (IntKind.i64.wrap ((Int.tmod p0 3) + 3)) 3))) 2))) (IntKind.i64.wrap (x20 + (Int.tmod (IntKind.i64.wrap ((Int.tmod p2 2) + 2)) 2)))) d5_x14).bind fun x28 =>
(if (decide ((IntKind.i64.wrap (31 + (Int.tmod (IntKind.i64.wrap ((Int.tmod p0 3) + 3)) 3))) > 32)) = true then
law16_AssignLimits_J33 p0 p1 p2 d3_x7 d5_x14 x20 x28 true
else
law16_AssignLimits_J33 p0 p1 p2 d3_x7 d5_x14 x20 x28 (decide ((IntKind.i64.wrap (31 + (Int.tmod (IntKind.i64.wrap ((Int.tmod p1 3) + 3)) 3))) > 32))))))))

def law16_AssignLimits (p0 : Int) (p1 : Int) (p2 : Int) : Option Bool :=
(if (0 : Int) ≤ IntKind.i64.wrap (31 + (Int.tmod (IntKind.i64.wrap ((Int.tmod p0 3) + 3)) 3)) ∧ (IntKind.i64.wrap (31 + (Int.tmod (IntKind.i64.wrap ((Int.tmod p0 3) + 3)) 3)) : Int) ≤ 4294967296 then
(if (0 : Int) ≤ IntKind.i64.wrap (31 + (Int.tmod (IntKind.i64.wrap ((Int.tmod p1 3) + 3)) 3)) ∧ (IntKind.i64.wrap (31 + (Int.tmod (IntKind.i64.wrap ((Int.tmod p1 3) + 3)) 3)) : Int) ≤ 4294967296 then
law16_AssignLimits_J1 p0 p1 p2
else none)
else none)

theorem law16_AssignLimits_w (p0 : Int) (p1 : Int) (p2 : Int) (r : Bool) (w : World) (h : law16_AssignLimits p0 p1 p2 = some r) : CallVC Try.prog 3 [Vi p0, Vi p1, Vi p2] w fun v w' => v = .bool r ∧ Ev [] w w' := by
 refine calls_vc hmx Try.func3 (by kernel_rfl) rfl (rs := [.tmp 6]) rfl (by kernel_rfl) (args := [Vi p0, Vi p1, Vi p2]) rfl ?_
 have hev : Ev [] w w := Ev.refl _ _
 have hms : MS w [[]] := ⟨List.pairwise_singleton _ _, fun l hl b hb => by simp only [List.mem_singleton] at hl; subst hl; cases hb⟩
 have hfr : FR w.heap.size [] := FR.nil _
 refine c_sp ?_
 refine x_pure 1 [(6, .bool false)] _ _ _ (by kernel_rfl) ?_
 refine x_ek ?_
 refine c_sp ?_
 refine x_pure 17 [(14, Vi p0), (15, Vi (Int.tmod p0 3)), (16, Vi (IntKind.i64.wrap ((Int.tmod p0 3) + 3))), (17, Vi (Int.tmod (IntKind.i64.wrap ((Int.tmod p0 3) + 3)) 3)), (18, Vi (IntKind.i64.wrap (31 + (Int.tmod (IntKind.i64.wrap ((Int.tmod p0 3) + 3)) 3)))), (19, Vi p1), (20, Vi (Int.tmod p1 3)), (21, Vi (IntKind.i64.wrap ((Int.tmod p1 3) + 3))), (22, Vi (Int.tmod (IntKind.i64.wrap ((Int.tmod p1 3) + 3)) 3)), (23, Vi (IntKind.i64.wrap (31 + (Int.tmod (IntKind.i64.wrap ((Int.tmod p1 3) + 3)) 3)))), (24, Vi p2), (25, Vi (Int.tmod p2 2)), (26, Vi (IntKind.i64.wrap ((Int.tmod p2 2) + 2))), (27, Vi (Int.tmod (IntKind.i64.wrap ((Int.tmod p2 2) + 2)) 2)), (0, Vi (IntKind.i64.wrap (31 + (Int.tmod (IntKind.i64.wrap ((Int.tmod p0 3) + 3)) 3)))), (1, Vi (IntKind.i64.wrap (31 + (Int.tmod (IntKind.i64.wrap ((Int.tmod p1 3) + 3)) 3)))), (2, Vi (Int.tmod (IntKind.i64.wrap ((Int.tmod p2 2) + 2)) 2))] _ _ _ (by kernel_rfl) ?_
 refine x_ek ?_
 refine c_norm [(0, Vi (IntKind.i64.wrap (31 + (Int.tmod (IntKind.i64.wrap ((Int.tmod p0 3) + 3)) 3)))), (1, Vi (IntKind.i64.wrap (31 + (Int.tmod (IntKind.i64.wrap ((Int.tmod p1 3) + 3)) 3)))), (2, Vi (Int.tmod (IntKind.i64.wrap ((Int.tmod p2 2) + 2)) 2))] ⟨rfl, rfl, rfl, trivial⟩ (fun J => ?_)
 refine c_join (σ := Option Addr × Nat × Option Addr × Nat) (fun s => match s with | (a3_j1, c3_j1, a5_j1, c5_j1) => [(0, Vi (IntKind.i64.wrap (31 + (Int.tmod (IntKind.i64.wrap ((Int.tmod p0 3) + 3)) 3)))), (1, Vi (IntKind.i64.wrap (31 + (Int.tmod (IntKind.i64.wrap ((Int.tmod p1 3) + 3)) 3)))), (2, Vi (Int.tmod (IntKind.i64.wrap ((Int.tmod p2 2) + 2)) 2)), (7, .slice a3_j1 ((List.replicate (Int.toNat (IntKind.i64.wrap (31 + (Int.tmod (IntKind.i64.wrap ((Int.tmod p0 3) + 3)) 3)))) 0 : List Int)).length c3_j1), (8, .slice a5_j1 ((List.replicate (Int.toNat (IntKind.i64.wrap (31 + (Int.tmod (IntKind.i64.wrap ((Int.tmod p1 3) + 3)) 3)))) 0 : List Int)).length c5_j1)]) (fun s w' => match s with | (a3_j1, c3_j1, a5_j1, c5_j1) => law16_AssignLimits_J1 p0 p1 p2 = some r ∧ Ev [] w w' ∧ MS w' [blk a3_j1, blk a5_j1, []] ∧ FR w.heap.size [blk a3_j1, blk a5_j1] ∧ OwnS (eInt .i64) 3 w' (fl [blk a3_j1, blk a5_j1, []]) a3_j1 c3_j1 (List.replicate (Int.toNat (IntKind.i64.wrap (31 + (Int.tmod (IntKind.i64.wrap ((Int.tmod p0 3) + 3)) 3)))) 0 : List Int) ∧ OwnS (eInt .i64) 3 w' (fl [blk a3_j1, blk a5_j1, []]) a5_j1 c5_j1 (List.replicate (Int.toNat (IntKind.i64.wrap (31 + (Int.tmod (IntKind.i64.wrap ((Int.tmod p1 3) + 3)) 3)))) 0 : List Int)) ?_ ?_
 · refine c_drawnp [] [(0, false), (2, false)] (.alt 1 false (opsThen [(4, false), (3, false), (5, false)] .stop) (.alt 3 false (opsThen [(1, false), (4, false), (5, false)] .stop) .none_)) _ (by kernel_rfl) rfl ?_
   replace hms := hms.ev (Ev.drew w)
   replace hev := hev.ext (Ev.drew w)
   refine x_pure 2 [(28, Vi (IntKind.i64.wrap (31 + (Int.tmod (IntKind.i64.wrap ((Int.tmod p0 3) + 3)) 3)))), (30, Vi (IntKind.i64.wrap (31 + (Int.tmod (IntKind.i64.wrap ((Int.tmod p1 3) + 3)) 3))))] _ _ _ (by kernel_rfl) ?_
   refine x_end rfl ?_
   refine t_alt _ rfl ?_ ?_
   · have hg := guard_l h
     replace h := guard_r h
     obtain ⟨a2, c2, w2, hr2, he2, hn2, hw2⟩ := own_make (e := (eInt .i64)) tel22 (w).drew (IntKind.i64.wrap (31 + (Int.tmod (IntKind.i64.wrap ((Int.tmod p0 3) + 3)) 3))) hg.1 hg.2 0 (fun _ _ => rfl)
     refine x_makeSlice _ w2 (xv := Vi (IntKind.i64.wrap (31 + (Int.tmod (IntKind.i64.wrap ((Int.tmod p0 3) + 3)) 3)))) (yv := Vi (IntKind.i64.wrap (31 + (Int.tmod (IntKind.i64.wrap ((Int.tmod p0 3) + 3)) 3)))) rfl rfl rfl rfl hr2 ?_
     refine ⟨.inr he2, ?_⟩
     replace hms := hms.push he2 hn2
     replace hfr := hfr.push (fun b hb => Nat.le_trans hev.size (hn2 b hb).1)
     replace hev := hev.ext he2
     have ho2 := hw2 (fl [blk a2, []])
     clear hw2
     refine x_pure 1 [(7, .slice a2 ((List.replicate (Int.toNat (IntKind.i64.wrap (31 + (Int.tmod (IntKind.i64.wrap ((Int.tmod p0 3) + 3)) 3)))) 0 : List Int)).length c2)] _ _ _ (by kernel_rfl) ?_
     have hg := guard_l h
     replace h := guard_r h
     obtain ⟨a4, c4, w4, hr4, he4, hn4, hw4⟩ := own_make (e := (eInt .i64)) tel22 w2 (IntKind.i64.wrap (31 + (Int.tmod (IntKind.i64.wrap ((Int.tmod p1 3) + 3)) 3))) hg.1 hg.2 0 (fun _ _ => rfl)
     refine x_makeSlice _ w4 (xv := Vi (IntKind.i64.wrap (31 + (Int.tmod (IntKind.i64.wrap ((Int.tmod p1 3) + 3)) 3)))) (yv := Vi (IntKind.i64.wrap (31 + (Int.tmod (IntKind.i64.wrap ((Int.tmod p1 3) + 3)) 3)))) rfl rfl rfl rfl hr4 ?_
     refine ⟨.inr he4, ?_⟩
     have hst := Stp.push (ls := [blk a2, []]) (l := blk a4) he4 (fun _ h => by cases h) (fun b hb => (hn4 b hb).1)
     replace ho2 := ho2.step hst he4 nn2
     replace hms := hms.push he4 hn4
     replace hfr := hfr.push (fun b hb => Nat.le_trans hev.size (hn4 b hb).1)
     replace hev := hev.ext he4
     have ho4 := hw4 (fl [blk a4, blk a2, []])
     clear hw4
     refine x_pure 1 [(8, .slice a4 ((List.replicate (Int.toNat (IntKind.i64.wrap (31 + (Int.tmod (IntKind.i64.wrap ((Int.tmod p1 3) + 3)) 3)))) 0 : List Int)).length c4)] _ _ _ (by kernel_rfl) ?_
     refine x_end rfl ?_
     refine t_stop ?_
     have hpk : MS w4 [blk a2, blk a4, []] := hms.pick [some 1, some 0, some 2] _ rfl
     have hsu : ∀ x ∈ fl [blk a2, blk a4, []], x ∈ fl [blk a4, blk a2, []] := pick_sub [some 1, some 0, some 2] _ rfl
     replace ho2 := ho2.sub hsu
     replace ho4 := ho4.sub hsu
     replace hms := hpk
     replace hfr : FR w.heap.size [blk a2, blk a4] := hfr.pick [some 1, some 0] _ rfl
     clear hpk hsu
     exact k_then ⟨(a2, c2, a4, c4), ⟨rfl, rfl, rfl, rfl, rfl, trivial⟩, h, hev, hms, hfr, ho2, ho4⟩
   refine t_alt _ rfl ?_ ?_
   · have hpg0 := guard_l h
     replace h := guard_r h
     have hpg1 := guard_l h
     replace h := guard_r h
     replace h : (if (0 : Int) ≤ IntKind.i64.wrap (31 + (Int.tmod (IntKind.i64.wrap ((Int.tmod p1 3) + 3)) 3)) ∧ (IntKind.i64.wrap (31 + (Int.tmod (IntKind.i64.wrap ((Int.tmod p1 3) + 3)) 3)) : Int) ≤ 4294967296 then
(if (0 : Int) ≤ IntKind.i64.wrap (31 + (Int.tmod (IntKind.i64.wrap ((Int.tmod p0 3) + 3)) 3)) ∧ (IntKind.i64.wrap (31 + (Int.tmod (IntKind.i64.wrap ((Int.tmod p0 3) + 3)) 3)) : Int) ≤ 4294967296 then
law16_AssignLimits_J1 p0 p1 p2
else none)
else none) = _ := (guard_i hpg1 (guard_i hpg0 h))
     clear hpg0 hpg1
     have hg := guard_l h
     replace h := guard_r h
     obtain ⟨a2, c2, w2, hr2, he2, hn2, hw2⟩ := own_make (e := (eInt .i64)) tel22 (w).drew (IntKind.i64.wrap (31 + (Int.tmod (IntKind.i64.wrap ((Int.tmod p1 3) + 3)) 3))) hg.1 hg.2 0 (fun _ _ => rfl)
     refine x_makeSlice _ w2 (xv := Vi (IntKind.i64.wrap (31 + (Int.tmod (IntKind.i64.wrap ((Int.tmod p1 3) + 3)) 3)))) (yv := Vi (IntKind.i64.wrap (31 + (Int.tmod (IntKind.i64.wrap ((Int.tmod p1 3) + 3)) 3)))) rfl rfl rfl rfl hr2 ?_
     refine ⟨.inr he2, ?_⟩
     replace hms := hms.push he2 hn2
     replace hfr := hfr.push (fun b hb => Nat.le_trans hev.size (hn2 b hb).1)
     replace hev := hev.ext he2
     have ho2 := hw2 (fl [blk a2, []])
     clear hw2
     have hg := guard_l h
     replace h := guard_r h
     obtain ⟨a4, c4, w4, hr4, he4, hn4, hw4⟩ := own_make (e := (eInt .i64)) tel22 w2 (IntKind.i64.wrap (31 + (Int.tmod (IntKind.i64.wrap ((Int.tmod p0 3) + 3)) 3))) hg.1 hg.2 0 (fun _ _ => rfl)
     refine x_makeSlice _ w4 (xv := Vi (IntKind.i64.wrap (31 + (Int.tmod (IntKind.i64.wrap ((Int.tmod p0 3) + 3)) 3)))) (yv := Vi (IntKind.i64.wrap (31 + (Int.tmod (IntKind.i64.wrap ((Int.tmod p0 3) + 3)) 3)))) rfl rfl rfl rfl hr4 ?_
     refine ⟨.inr he4, ?_⟩
     have hst := Stp.push (ls := [blk a2, []]) (l := blk a4) he4 (fun _ h => by cases h) (fun b hb => (hn4 b hb).1)
     replace ho2 := ho2.step hst he4 nn2
     replace hms := hms.push he4 hn4
     replace hfr := hfr.push (fun b hb => Nat.le_trans hev.size (hn4 b hb).1)
     replace hev := hev.ext he4
     have ho4 := hw4 (fl [blk a4, blk a2, []])
     clear hw4
     refine x_pure 2 [(7, .slice a4 ((List.replicate (Int.toNat (IntKind.i64.wrap (31 + (Int.tmod (IntKind.i64.wrap ((Int.tmod p0 3) + 3)) 3)))) 0 : List Int)).length c4), (8, .slice a2 ((List.replicate (Int.toNat (IntKind.i64.wrap (31 + (Int.tmod (IntKind.i64.wrap ((Int.tmod p1 3) + 3)) 3)))) 0 : List Int)).length c2)] _ _ _ (by kernel_rfl) ?_
     refine x_end rfl ?_
     refine t_stop ?_
     exact k_then ⟨(a4, c4, a2, c2), ⟨rfl, rfl, rfl, rfl, rfl, trivial⟩, h, hev, hms, hfr, ho4, ho2⟩
   exact t_none
 rintro ⟨a3_j1, c3_j1, a5_j1, c5_j1⟩ J wj1 ⟨h, hev, hms, hfr, hj3_j1, hj5_j1⟩
 refine c_seq ?_
 refine c_sp ?_
 refine x_pure 1 [(32, .slice a3_j1 ((List.replicate (Int.toNat (IntKind.i64.wrap (31 + (Int.tmod (IntKind.i64.wrap ((Int.tmod p0 3) + 3)) 3)))) 0 : List Int)).length c3_j1)] _ _ _ (by kernel_rfl) ?_
 refine x_len (vs := [.slice a3_j1 ((List.replicate (Int.toNat (IntKind.i64.wrap (31 + (Int.tmod (IntKind.i64.wrap ((Int.tmod p0 3) + 3)) 3)))) 0 : List Int)).length c3_j1]) (Vi (((List.replicate (Int.toNat (IntKind.i64.wrap (31 + (Int.tmod (IntKind.i64.wrap ((Int.tmod p0 3) + 3)) 3)))) 0 : List Int)).length : Int)) rfl rfl rfl (reads_len tsl22 _ _ _ _ _) ?_
 refine x_pure 1 [(34, Vi 0)] _ _ _ (by kernel_rfl) ?_
 refine x_ek ?_
 refine c_norm [(0, Vi (IntKind.i64.wrap (31 + (Int.tmod (IntKind.i64.wrap ((Int.tmod p0 3) + 3)) 3)))), (1, Vi (IntKind.i64.wrap (31 + (Int.tmod (IntKind.i64.wrap ((Int.tmod p1 3) + 3)) 3)))), (2, Vi (Int.tmod (IntKind.i64.wrap ((Int.tmod p2 2) + 2)) 2)), (7, .slice a3_j1 ((List.replicate (Int.toNat (IntKind.i64.wrap (31 + (Int.tmod (IntKind.i64.wrap ((Int.tmod p0 3) + 3)) 3)))) 0 : List Int)).length c3_j1), (8, .slice a5_j1 ((List.replicate (Int.toNat (IntKind.i64.wrap (31 + (Int.tmod (IntKind.i64.wrap ((Int.tmod p1 3) + 3)) 3)))) 0 : List Int)).length c5_j1), (33, Vi (((List.replicate (Int.toNat (IntKind.i64.wrap (31 + (Int.tmod (IntKind.i64.wrap ((Int.tmod p0 3) + 3)) 3)))) 0 : List Int)).length : Int)), (34, Vi 0)] ⟨rfl, rfl, rfl, rfl, rfl, rfl, rfl, trivial⟩ (fun J => ?_)
 refine c_block ?_
 obtain ⟨d7, hd7, h7⟩ := bind_some h
 obtain ⟨m7, hd7⟩ := loop_some hd7
 refine c_loop (loop_rule hmx (σ := Nat × (List Int) × Int) (fun s => match s with | (_, d3_l7, t34__s34_l7) => [(0, Vi (IntKind.i64.wrap (31 + (Int.tmod (IntKind.i64.wrap ((Int.tmod p0 3) + 3)) 3)))), (1, Vi (IntKind.i64.wrap (31 + (Int.tmod (IntKind.i64.wrap ((Int.tmod p1 3) + 3)) 3)))), (2, Vi (Int.tmod (IntKind.i64.wrap ((Int.tmod p2 2) + 2)) 2)), (7, .slice a3_j1 (d3_l7).length c3_j1), (8, .slice a5_j1 ((List.replicate (Int.toNat (IntKind.i64.wrap (31 + (Int.tmod (IntKind.i64.wrap ((Int.tmod p1 3) + 3)) 3)))) 0 : List Int)).length c5_j1), (33, Vi (((List.replicate (Int.toNat (IntKind.i64.wrap (31 + (Int.tmod (IntKind.i64.wrap ((Int.tmod p0 3) + 3)) 3)))) 0 : List Int)).length : Int)), (34, Vi t34__s34_l7)]) (fun s w' => match s with | (m, d3_l7, t34__s34_l7) => loopN (law16_AssignLimits_L7 p0) m (d3_l7, t34__s34_l7) = some d7 ∧ Ev [] w w' ∧ MS w' [blk a3_j1, blk a5_j1, []] ∧ FR w.heap.size [blk a3_j1, blk a5_j1] ∧ OwnS (eInt .i64) 3 w' (fl [blk a3_j1, blk a5_j1, []]) a3_j1 c3_j1 d3_l7 ∧ OwnS (eInt .i64) 3 w' (fl [blk a3_j1, blk a5_j1, []]) a5_j1 c5_j1 (List.replicate (Int.toNat (IntKind.i64.wrap (31 + (Int.tmod (IntKind.i64.wrap ((Int.tmod p1 3) + 3)) 3)))) 0 : List Int)) (fun s => s.1) (m7, (List.replicate (Int.toNat (IntKind.i64.wrap (31 + (Int.tmod (IntKind.i64.wrap ((Int.tmod p0 3) + 3)) 3)))) 0 : List Int), 0) ⟨rfl, rfl, rfl, rfl, rfl, rfl, rfl, trivial⟩ ⟨hd7, hev, hms, hfr, hj3_j1, hj5_j1⟩ ?_)
 rintro ⟨m7, d3_l7, t34__s34_l7⟩ J wl7 ⟨hn7, hev, hms, hfr, hj3_j1, hj5_j1⟩
 rcases m7 with _ | m7
 · exact (loopN_zero hn7).elim
 obtain ⟨t7, h, hn7⟩ := bind_some hn7
 refine c_sp ?_
 refine x_pure 1 [(35, .bool (decide (t34__s34_l7 < (((List.replicate (Int.toNat (IntKind.i64.wrap (31 + (Int.tmod (IntKind.i64.wrap ((Int.tmod p0 3) + 3)) 3)))) 0 : List Int)).length : Int))))] _ _ _ (by kernel_rfl) ?_
 refine x_ek ?_
 refine c_norm [(0, Vi (IntKind.i64.wrap (31 + (Int.tmod (IntKind.i64.wrap ((Int.tmod p0 3) + 3)) 3)))), (1, Vi (IntKind.i64.wrap (31 + (Int.tmod (IntKind.i64.wrap ((Int.tmod p1 3) + 3)) 3)))), (2, Vi (Int.tmod (IntKind.i64.wrap ((Int.tmod p2 2) + 2)) 2)), (7, .slice a3_j1 (d3_l7).length c3_j1), (8, .slice a5_j1 ((List.replicate (Int.toNat (IntKind.i64.wrap (31 + (Int.tmod (IntKind.i64.wrap ((Int.tmod p1 3) + 3)) 3)))) 0 : List Int)).length c5_j1), (33, Vi (((List.replicate (Int.toNat (IntKind.i64.wrap (31 + (Int.tmod (IntKind.i64.wrap ((Int.tmod p0 3) + 3)) 3)))) 0 : List Int)).length : Int)), (34, Vi t34__s34_l7), (35, .bool (decide (t34__s34_l7 < (((List.replicate (Int.toNat (IntKind.i64.wrap (31 + (Int.tmod (IntKind.i64.wrap ((Int.tmod p0 3) + 3)) 3)))) 0 : List Int)).length : Int))))] ⟨rfl, rfl, rfl, rfl, rfl, rfl, rfl, rfl, trivial⟩ (fun J => ?_)
 refine c_seq ?_
 refine c_cond (decide (t34__s34_l7 < (((List.replicate (Int.toNat (IntKind.i64.wrap (31 + (Int.tmod (IntKind.i64.wrap ((Int.tmod p0 3) + 3)) 3)))) 0 : List Int)).length : Int))) rfl (fun hb => ?_) (fun hb => ?_)
 · replace h := ite_t hb h
   refine c_skip ?_
   refine k_then ?_
   refine c_seq ?_
   refine c_block ?_
   refine c_sp ?_
   refine x_pure 2 [(36, Vi t34__s34_l7), (9, Vi t34__s34_l7)] _ _ _ (by kernel_rfl) ?_
   refine x_ek ?_
   refine c_plain ?_
   refine x_pure 2 [(37, .slice a3_j1 (d3_l7).length c3_j1), (38, Vi t34__s34_l7)] _ _ _ (by kernel_rfl) ?_
   obtain ⟨x8, hx8, h⟩ := bind_some h
   obtain ⟨g8, cs8, ha8, hr8, hc8, hR⟩ := own_index (Mo := []) tsl22 hj3_j1 hx8
   obtain rfl := hR
   refine x_indexAddr (xv := .slice a3_j1 (d3_l7).length c3_j1) (yv := Vi t34__s34_l7) (.pointer (some ⟨g8, (Int.toNat t34__s34_l7) * (eInt .i64).n, none⟩)) rfl rfl rfl rfl hr8 ?_
   obtain ⟨w12, hr12, he12, ho12⟩ := own_storeE ha8 (y := 38400) 0 (Vi 38400) tcell3 hj3_j1 (mem_flat 0 rfl) hx8 rfl rfl (fun _ _ _ hR => set_int hR)
   refine x_store w12 (xv := .pointer (some ⟨g8, (Int.toNat t34__s34_l7) * (eInt .i64).n, none⟩)) (yv := Vi 38400) rfl rfl rfl rfl hr12 ?_
   refine inl1 ?_
   have hst := Stp.ev' (ls := [blk a3_j1, blk a5_j1, []]) he12 (mem_flat 0 rfl)
   replace hj5_j1 := hj5_j1.step hst he12 (hms.apart 1 0 rfl rfl rfl)
   replace hms := hms.ev he12
   replace hev := hev.then he12 (fun b hb => .inr (hfr.at 0 rfl b hb))
   replace hj3_j1 := ho12
   have hsl : (Value.slice a3_j1 (d3_l7).length c3_j1) = (Value.slice a3_j1 ((d3_l7.set (Int.toNat t34__s34_l7) 38400)).length c3_j1) := by first | (rw [List.length_set]; done) | simp only [List.length_set]
   try rw [hsl]
   clear hsl
   refine x_end rfl ?_
   refine k_block ?_
   refine k_then ?_
   refine c_plain ?_
   refine x_pure 2 [(40, Vi (IntKind.i64.wrap (t34__s34_l7 + 1))), (34, Vi (IntKind.i64.wrap (t34__s34_l7 + 1)))] _ _ _ (by kernel_rfl) ?_
   refine x_end rfl ?_
   have hx := some_inj h
   subst hx
   exact k_then ⟨(m7, (d3_l7.set (Int.toNat t34__s34_l7) 38400), IntKind.i64.wrap (t34__s34_l7 + 1)), ⟨rfl, rfl, rfl, rfl, rfl, rfl, rfl, trivial⟩, ⟨hn7, hev, hms, hfr, hj3_j1, hj5_j1⟩, Nat.lt_succ_self _⟩
 replace h := ite_f hb h
 refine c_exit ?_
 refine k_then_exit ?_
 have hx := some_inj h
 subst hx
 have hy := some_inj hn7
 subst hy
 replace h := h7
 refine k_then_exit ?_
 refine k_block_in ?_
 refine k_then ?_
 refine c_norm [(0, Vi (IntKind.i64.wrap (31 + (Int.tmod (IntKind.i64.wrap ((Int.tmod p0 3) + 3)) 3)))), (1, Vi (IntKind.i64.wrap (31 + (Int.tmod (IntKind.i64.wrap ((Int.tmod p1 3) + 3)) 3)))), (2, Vi (Int.tmod (IntKind.i64.wrap ((Int.tmod p2 2) + 2)) 2)), (7, .slice a3_j1 (d3_l7).length c3_j1), (8, .slice a5_j1 ((List.replicate (Int.toNat (IntKind.i64.wrap (31 + (Int.tmod (IntKind.i64.wrap ((Int.tmod p1 3) + 3)) 3)))) 0 : List Int)).length c5_j1)] ⟨rfl, rfl, rfl, rfl, rfl, trivial⟩ (fun J => ?_)
 refine c_seq ?_
 refine c_sp ?_
 refine x_pure 1 [(41, .slice a5_j1 ((List.replicate (Int.toNat (IntKind.i64.wrap (31 + (Int.tmod (IntKind.i64.wrap ((Int.tmod p1 3) + 3)) 3)))) 0 : List Int)).length c5_j1)] _ _ _ (by kernel_rfl) ?_
 refine x_len (vs := [.slice a5_j1 ((List.replicate (Int.toNat (IntKind.i64.wrap (31 + (Int.tmod (IntKind.i64.wrap ((Int.tmod p1 3) + 3)) 3)))) 0 : List Int)).length c5_j1]) (Vi (((List.replicate (Int.toNat (IntKind.i64.wrap (31 + (Int.tmod (IntKind.i64.wrap ((Int.tmod p1 3) + 3)) 3)))) 0 : List Int)).length : Int)) rfl rfl rfl (reads_len tsl22 _ _ _ _ _) ?_
 refine x_pure 1 [(43, Vi 0)] _ _ _ (by kernel_rfl) ?_
 refine x_ek ?_
 refine c_block ?_
 obtain ⟨d14, hd14, h14⟩ := bind_some h
 obtain ⟨m14, hd14⟩ := loop_some hd14
 refine c_loop (loop_rule hmx (σ := Nat × (List Int) × Int) (fun s => match s with | (_, d5_l14, t43__s43_l14) => [(0, Vi (IntKind.i64.wrap (31 + (Int.tmod (IntKind.i64.wrap ((Int.tmod p0 3) + 3)) 3)))), (1, Vi (IntKind.i64.wrap (31 + (Int.tmod (IntKind.i64.wrap ((Int.tmod p1 3) + 3)) 3)))), (2, Vi (Int.tmod (IntKind.i64.wrap ((Int.tmod p2 2) + 2)) 2)), (7, .slice a3_j1 (d3_l7).length c3_j1), (8, .slice a5_j1 (d5_l14).length c5_j1), (42, Vi (((List.replicate (Int.toNat (IntKind.i64.wrap (31 + (Int.tmod (IntKind.i64.wrap ((Int.tmod p1 3) + 3)) 3)))) 0 : List Int)).length : Int)), (43, Vi t43__s43_l14)]) (fun s w' => match s with | (m, d5_l14, t43__s43_l14) => loopN (law16_AssignLimits_L14 p1) m (d5_l14, t43__s43_l14) = some d14 ∧ Ev [] w w' ∧ MS w' [blk a3_j1, blk a5_j1, []] ∧ FR w.heap.size [blk a3_j1, blk a5_j1] ∧ OwnS (eInt .i64) 3 w' (fl [blk a3_j1, blk a5_j1, []]) a3_j1 c3_j1 d3_l7 ∧ OwnS (eInt .i64) 3 w' (fl [blk a3_j1, blk a5_j1, []]) a5_j1 c5_j1 d5_l14) (fun s => s.1) (m14, (List.replicate (Int.toNat (IntKind.i64.wrap (31 + (Int.tmod (IntKind.i64.wrap ((Int.tmod p1 3) + 3)) 3)))) 0 : List Int), 0) ⟨rfl, rfl, rfl, rfl, rfl, rfl, rfl, trivial⟩ ⟨hd14, hev, hms, hfr, hj3_j1, hj5_j1⟩ ?_)
 rintro ⟨m14, d5_l14, t43__s43_l14⟩ J wl14 ⟨hn14, hev, hms, hfr, hj3_j1, hj5_j1⟩
 rcases m14 with _ | m14
 · exact (loopN_zero hn14).elim
 obtain ⟨t14, h, hn14⟩ := bind_some hn14
 refine c_sp ?_
 refine x_pure 1 [(44, .bool (decide (t43__s43_l14 < (((List.replicate (Int.toNat (IntKind.i64.wrap (31 + (Int.tmod (IntKind.i64.wrap ((Int.tmod p1 3) + 3)) 3)))) 0 : List Int)).length : Int))))] _ _ _ (by kernel_rfl) ?_
 refine x_ek ?_
 refine c_norm [(0, Vi (IntKind.i64.wrap (31 + (Int.tmod (IntKind.i64.wrap ((Int.tmod p0 3) + 3)) 3)))), (1, Vi (IntKind.i64.wrap (31 + (Int.tmod (IntKind.i64.wrap ((Int.tmod p1 3) + 3)) 3)))), (2, Vi (Int.tmod (IntKind.i64.wrap ((Int.tmod p2 2) + 2)) 2)), (7, .slice a3_j1 (d3_l7).length c3_j1), (8, .slice a5_j1 (d5_l14).length c5_j1), (42, Vi (((List.replicate (Int.toNat (IntKind.i64.wrap (31 + (Int.tmod (IntKind.i64.wrap ((Int.tmod p1 3) + 3)) 3)))) 0 : List Int)).length : Int)), (43, Vi t43__s43_l14), (44, .bool (decide (t43__s43_l14 < (((List.replicate (Int.toNat (IntKind.i64.wrap (31 + (Int.tmod (IntKind.i64.wrap ((Int.tmod p1 3) + 3)) 3)))) 0 : List Int)).length : Int))))] ⟨rfl, rfl, rfl, rfl, rfl, rfl, rfl, rfl, trivial⟩ (fun J => ?_)
 refine c_seq ?_
 refine c_cond (decide (t43__s43_l14 < (((List.replicate (Int.toNat (IntKind.i64.wrap (31 + (Int.tmod (IntKind.i64.wrap ((Int.tmod p1 3) + 3)) 3)))) 0 : List Int)).length : Int))) rfl (fun hb => ?_) (fun hb => ?_)
 · replace h := ite_t hb h
   refine c_skip ?_
   refine k_then ?_
   refine c_seq ?_
   refine c_block ?_
   refine c_sp ?_
   refine x_pure 2 [(45, Vi t43__s43_l14), (10, Vi t43__s43_l14)] _ _ _ (by kernel_rfl) ?_
   refine x_ek ?_
   refine c_plain ?_
   refine x_pure 2 [(46, .slice a5_j1 (d5_l14).length c5_j1), (47, Vi t43__s43_l14)] _ _ _ (by kernel_rfl) ?_
   obtain ⟨x15, hx15, h⟩ := bind_some h
   obtain ⟨g15, cs15, ha15, hr15, hc15, hR⟩ := own_index (Mo := []) tsl22 hj5_j1 hx15
   obtain rfl := hR
   refine x_indexAddr (xv := .slice a5_j1 (d5_l14).length c5_j1) (yv := Vi t43__s43_l14) (.pointer (some ⟨g15, (Int.toNat t43__s43_l14) * (eInt .i64).n, none⟩)) rfl rfl rfl rfl hr15 ?_
   obtain ⟨w19, hr19, he19, ho19⟩ := own_storeE ha15 (y := 38400) 0 (Vi 38400) tcell3 hj5_j1 (mem_flat 1 rfl) hx15 rfl rfl (fun _ _ _ hR => set_int hR)
   refine x_store w19 (xv := .pointer (some ⟨g15, (Int.toNat t43__s43_l14) * (eInt .i64).n, none⟩)) (yv := Vi 38400) rfl rfl rfl rfl hr19 ?_
   refine inl1 ?_
   have hst := Stp.ev' (ls := [blk a3_j1, blk a5_j1, []]) he19 (mem_flat 1 rfl)
   replace hj3_j1 := hj3_j1.step hst he19 (hms.apart 0 1 rfl rfl rfl)
   replace hms := hms.ev he19
   replace hev := hev.then he19 (fun b hb => .inr (hfr.at 1 rfl b hb))
   replace hj5_j1 := ho19
   have hsl : (Value.slice a5_j1 (d5_l14).length c5_j1) = (Value.slice a5_j1 ((d5_l14.set (Int.toNat t43__s43_l14) 38400)).length c5_j1) := by first | (rw [List.length_set]; done) | simp only [List.length_set]
   try rw [hsl]
   clear hsl
   refine x_end rfl ?_
   refine k_block ?_
   refine k_then ?_
   refine c_plain ?_
   refine x_pure 2 [(49, Vi (IntKind.i64.wrap (t43__s43_l14 + 1))), (43, Vi (IntKind.i64.wrap (t43__s43_l14 + 1)))] _ _ _ (by kernel_rfl) ?_
   refine x_end rfl ?_
   have hx := some_inj h
   subst hx
   exact k_then ⟨(m14, (d5_l14.set (Int.toNat t43__s43_l14) 38400), IntKind.i64.wrap (t43__s43_l14 + 1)), ⟨rfl, rfl, rfl, rfl, rfl, rfl, rfl, trivial⟩, ⟨hn14, hev, hms, hfr, hj3_j1, hj5_j1⟩, Nat.lt_succ_self _⟩
 replace h := ite_f hb h
 refine c_exit ?_
 refine k_then_exit ?_
 have hx := some_inj h
 subst hx
 have hy := some_inj hn14
 subst hy
 replace h := h14
 refine k_then_exit ?_
 refine k_block_in ?_
 refine k_then ?_
 refine c_norm [(0, Vi (IntKind.i64.wrap (31 + (Int.tmod (IntKind.i64.wrap ((Int.tmod p0 3) + 3)) 3)))), (1, Vi (IntKind.i64.wrap (31 + (Int.tmod (IntKind.i64.wrap ((Int.tmod p1 3) + 3)) 3)))), (2, Vi (Int.tmod (IntKind.i64.wrap ((Int.tmod p2 2) + 2)) 2)), (7, .slice a3_j1 (d3_l7).length c3_j1), (8, .slice a5_j1 (d5_l14).length c5_j1)] ⟨rfl, rfl, rfl, rfl, rfl, trivial⟩ (fun J => ?_)
 refine c_sp ?_
 refine x_pure 3 [(50, .slice a3_j1 (d3_l7).length c3_j1), (51, Vi (IntKind.i64.wrap (31 + (Int.tmod (IntKind.i64.wrap ((Int.tmod p0 3) + 3)) 3)))), (52, Vi (IntKind.i64.wrap (Int.tdiv (IntKind.i64.wrap (31 + (Int.tmod (IntKind.i64.wrap ((Int.tmod p0 3) + 3)) 3))) 2)))] _ _ _ (by kernel_rfl) ?_
 obtain ⟨x20, hx20, h⟩ := bind_some h
 obtain ⟨g20, cs20, ha20, hr20, hc20, hR⟩ := own_index (Mo := []) tsl22 hj3_j1 hx20
 obtain rfl := hR
 refine x_indexAddr (xv := .slice a3_j1 (d3_l7).length c3_j1) (yv := Vi (IntKind.i64.wrap (Int.tdiv (IntKind.i64.wrap (31 + (Int.tmod (IntKind.i64.wrap ((Int.tmod p0 3) + 3)) 3))) 2))) (.pointer (some ⟨g20, (Int.toNat (IntKind.i64.wrap (Int.tdiv (IntKind.i64.wrap (31 + (Int.tmod (IntKind.i64.wrap ((Int.tmod p0 3) + 3)) 3))) 2))) * (eInt .i64).n, none⟩)) rfl rfl rfl rfl hr20 ?_
 refine x_load (xv := .pointer (some ⟨g20, (Int.toNat (IntKind.i64.wrap (Int.tdiv (IntKind.i64.wrap (31 + (Int.tmod (IntKind.i64.wrap ((Int.tmod p0 3) + 3)) 3))) 2))) * (eInt .i64).n, none⟩)) (Vi x20) rfl rfl rfl (reads_cell0 tcell3 hc20 (fun _ h => by cases h)) ?_
 refine x_pure 2 [(55, Vi (Int.tmod (IntKind.i64.wrap ((Int.tmod p2 2) + 2)) 2)), (56, Vi (IntKind.i64.wrap (x20 + (Int.tmod (IntKind.i64.wrap ((Int.tmod p2 2) + 2)) 2))))] _ _ _ (by kernel_rfl) ?_
 obtain ⟨x23, hx23, h⟩ := bind_some h
 obtain ⟨g23, cs23, ha23, hr23, hc23, hR⟩ := own_index (Mo := []) tsl22 hj3_j1 hx23
 obtain rfl := hR
 refine x_indexAddr (xv := .slice a3_j1 (d3_l7).length c3_j1) (yv := Vi (IntKind.i64.wrap (Int.tdiv (IntKind.i64.wrap (31 + (Int.tmod (IntKind.i64.wrap ((Int.tmod p0 3) + 3)) 3))) 2))) (.pointer (some ⟨g23, (Int.toNat (IntKind.i64.wrap (Int.tdiv (IntKind.i64.wrap (31 + (Int.tmod (IntKind.i64.wrap ((Int.tmod p0 3) + 3)) 3))) 2))) * (eInt .i64).n, none⟩)) rfl rfl rfl rfl hr23 ?_
 have hxs25_21 := hx20
 obtain ⟨w27, hr27, he27, ho27⟩ := own_storeE ha23 (y := IntKind.i64.wrap (x20 + (Int.tmod (IntKind.i64.wrap ((Int.tmod p2 2) + 2)) 2))) 0 (Vi (IntKind.i64.wrap (x20 + (Int.tmod (IntKind.i64.wrap ((Int.tmod p2 2) + 2)) 2)))) tcell3 hj3_j1 (mem_flat 0 rfl) hx23 rfl rfl (fun _ _ _ hR => set_int hR)
 refine x_store w27 (xv := .pointer (some ⟨g23, (Int.toNat (IntKind.i64.wrap (Int.tdiv (IntKind.i64.wrap (31 + (Int.tmod (IntKind.i64.wrap ((Int.tmod p0 3) + 3)) 3))) 2))) * (eInt .i64).n, none⟩)) (yv := Vi (IntKind.i64.wrap (x20 + (Int.tmod (IntKind.i64.wrap ((Int.tmod p2 2) + 2)) 2)))) rfl rfl rfl rfl hr27 ?_
 refine inl1 ?_
 have hst := Stp.ev' (ls := [blk a3_j1, blk a5_j1, []]) he27 (mem_flat 0 rfl)
 replace hj5_j1 := hj5_j1.step hst he27 (hms.apart 1 0 rfl rfl rfl)
 replace hms := hms.ev he27
 replace hev := hev.then he27 (fun b hb => .inr (hfr.at 0 rfl b hb))
 replace hj3_j1 := ho27
 have hsl : (Value.slice a3_j1 (d3_l7).length c3_j1) = (Value.slice a3_j1 ((d3_l7.set (Int.toNat (IntKind.i64.wrap (Int.tdiv (IntKind.i64.wrap (31 + (Int.tmod (IntKind.i64.wrap ((Int.tmod p0 3) + 3)) 3))) 2))) (IntKind.i64.wrap (x20 + (Int.tmod (IntKind.i64.wrap ((Int.tmod p2 2) + 2)) 2))))).length c3_j1) := by first | (rw [List.length_set]; done) | simp only [List.length_set]
 try rw [hsl]
 clear hsl
 obtain ⟨_, hxs25_21⟩ : ∃ y, idx (d3_l7.set (Int.toNat (IntKind.i64.wrap (Int.tdiv (IntKind.i64.wrap (31 + (Int.tmod (IntKind.i64.wrap ((Int.tmod p0 3) + 3)) 3))) 2))) (IntKind.i64.wrap (x20 + (Int.tmod (IntKind.i64.wrap ((Int.tmod p2 2) + 2)) 2)))) (IntKind.i64.wrap (Int.tdiv (IntKind.i64.wrap (31 + (Int.tmod (IntKind.i64.wrap ((Int.tmod p0 3) + 3)) 3))) 2)) = some y := idx_set_any hxs25_21 _ _
 refine x_ek ?_
 refine c_sp ?_
 refine x_pure 2 [(59, .slice a3_j1 ((d3_l7.set (Int.toNat (IntKind.i64.wrap (Int.tdiv (IntKind.i64.wrap (31 + (Int.tmod (IntKind.i64.wrap ((Int.tmod p0 3) + 3)) 3))) 2))) (IntKind.i64.wrap (x20 + (Int.tmod (IntKind.i64.wrap ((Int.tmod p2 2) + 2)) 2))))).length c3_j1), (60, .slice a5_j1 (d5_l14).length c5_j1)] _ _ _ (by kernel_rfl) ?_
 obtain ⟨x28, hx, h⟩ := bind_some h
 have hpk : MS w27 ([] ++ [[]]) := hms.pick [some 2] _ rfl
 have hsb0 : ∀ x ∈ fl ([] ++ [[]]), x ∈ fl [blk a3_j1, blk a5_j1, []] := pick_sub [some 2] _ rfl
 have hsb : ∀ x ∈ fl ([] ++ [(fl [[]])]), x ∈ fl [blk a3_j1, blk a5_j1, []] := fun x hx => hsb0 x (fl_unfold x hx)
 have hcall := assign_Match_w a3_j1 c3_j1 (d3_l7.set (Int.toNat (IntKind.i64.wrap (Int.tdiv (IntKind.i64.wrap (31 + (Int.tmod (IntKind.i64.wrap ((Int.tmod p0 3) + 3)) 3))) 2))) (IntKind.i64.wrap (x20 + (Int.tmod (IntKind.i64.wrap ((Int.tmod p2 2) + 2)) 2)))) a5_j1 c5_j1 d5_l14 _ w27 (fl [[]]) (MS.fold (P := []) hpk) (hj3_j1.ro hsb (fun b hb hb2 => pick_out hms 0 rfl [some 2] ([] ++ [[]]) rfl rfl b hb (fl_unfold b hb2))) (hj5_j1.ro hsb (fun b hb hb2 => pick_out hms 1 rfl [some 2] ([] ++ [[]]) rfl rfl b hb (fl_unfold b hb2))) hx
 refine x_call 8 #[] #[] [.slice a3_j1 ((d3_l7.set (Int.toNat (IntKind.i64.wrap (Int.tdiv (IntKind.i64.wrap (31 + (Int.tmod (IntKind.i64.wrap ((Int.tmod p0 3) + 3)) 3))) 2))) (IntKind.i64.wrap (x20 + (Int.tmod (IntKind.i64.wrap ((Int.tmod p2 2) + 2)) 2))))).length c3_j1, .slice a5_j1 (d5_l14).length c5_j1] _ rfl rfl rfl rfl hcall ?_
 rintro v w29 ⟨a0_29, c0_29, a2_29, c2_29, rfl, he29, hmn29, hfn29, hf29_1, hf29_2⟩
 clear hcall hx
 refine inl1 ?_
 have hpk2 : MS w27 ([] ++ [blk a3_j1, blk a5_j1, []]) := hms.pick [some 0, some 1, some 2] _ rfl
 have hsb2 : ∀ x ∈ fl ([] ++ [blk a3_j1, blk a5_j1, []]), x ∈ fl [blk a3_j1, blk a5_j1, []] := pick_sub [some 0, some 1, some 2] _ rfl
 have hst0 := Stp.call (LS := [blk a3_j1, blk a5_j1, []]) (res := [blk a0_29, blk a2_29]) (par := []) (R := [blk a3_j1, blk a5_j1, []]) he29 (fun b hb => hsb2 b (fl_left' (P := []) b hb)) hfn29 (NP.init _ _) (fun x hx => hsb2 x (fl_right' (P := []) x hx))
 have hsn : ∀ x ∈ fl [blk a0_29, blk a2_29, blk a3_j1, blk a5_j1, []], x ∈ fl ([blk a0_29, blk a2_29] ++ ([] ++ [blk a3_j1, blk a5_j1, []])) := pick_sub [some 0, some 1, some 2, some 3, some 4] _ rfl
 have hst := hst0.res hsn
 replace hj3_j1 := hj3_j1.step hst he29 (MS.outs (P := []) hpk2 0 rfl)
 replace hj5_j1 := hj5_j1.step hst he29 (MS.outs (P := []) hpk2 1 rfl)
 replace hms : MS w29 [blk a0_29, blk a2_29, blk a3_j1, blk a5_j1, []] := (MS.call (P := []) (R := [blk a3_j1, blk a5_j1, []]) (res := [blk a0_29, blk a2_29]) (par := []) hpk2 he29 hmn29 hfn29 (NP.init _ _)).pick [some 0, some 1, some 2, some 3, some 4] _ rfl
 have hfr2 : FR w.heap.size [blk a0_29, blk a2_29, blk a3_j1, blk a5_j1] := (FR.cons (fun b hb => Nat.le_trans hev.size (hfn29.at 0 rfl b hb)) (FR.cons (fun b hb => Nat.le_trans hev.size (hfn29.at 1 rfl b hb)) (FR.cons (hfr.at 0 rfl) (FR.cons (hfr.at 1 rfl) (FR.nil _)))))
 replace hev := hev.ext he29
 replace hfr := hfr2
 clear hfr2
 replace hf29_1 := OwnS.plain (M' := fl [blk a0_29, blk a2_29, blk a3_j1, blk a5_j1, []]) (plain_int _) hf29_1
 replace hf29_2 := OwnS.plain (M' := fl [blk a0_29, blk a2_29, blk a3_j1, blk a5_j1, []]) (plain_int _) hf29_2
 clear hpk hsb hsb0 hpk2 hsb2 hst0 hsn hst
 have hpk : MS w29 [blk a2_29, blk a3_j1, blk a5_j1, []] := hms.pick [some 1, some 2, some 3, some 4] _ rfl
 have hsu : ∀ x ∈ fl [blk a2_29, blk a3_j1, blk a5_j1, []], x ∈ fl [blk a0_29, blk a2_29, blk a3_j1, blk a5_j1, []] := pick_sub [some 1, some 2, some 3, some 4] _ rfl
 replace hj3_j1 := hj3_j1.sub hsu
 replace hj5_j1 := hj5_j1.sub hsu
 replace hf29_1 := hf29_1.ro hsu (pick_out hms 0 rfl [some 1, some 2, some 3, some 4] [blk a2_29, blk a3_j1, blk a5_j1, []] rfl rfl)
 replace hf29_2 := hf29_2.sub hsu
 replace hms := hpk
 replace hfr : FR w.heap.size [blk a2_29, blk a3_j1, blk a5_j1] := hfr.pick [some 1, some 2, some 3] _ rfl
 clear hpk hsu
 have hpk : MS w29 [blk a3_j1, blk a5_j1, []] := hms.pick [some 1, some 2, some 3] _ rfl
 have hsu : ∀ x ∈ fl [blk a3_j1, blk a5_j1, []], x ∈ fl [blk a2_29, blk a3_j1, blk a5_j1, []] := pick_sub [some 1, some 2, some 3] _ rfl
 replace hj3_j1 := hj3_j1.sub hsu
 replace hj5_j1 := hj5_j1.sub hsu
 replace hf29_1 := hf29_1.sub hsu
 replace hf29_2 := hf29_2.ro hsu (pick_out hms 0 rfl [some 1, some 2, some 3] [blk a3_j1, blk a5_j1, []] rfl rfl)
 replace hms := hpk
 replace hfr : FR w.heap.size [blk a3_j1, blk a5_j1] := hfr.pick [some 1, some 2] _ rfl
 clear hpk hsu
 refine x_pure 7 [(58, .tuple #[.slice a0_29 (x28.1).length c0_29, .slice a2_29 (x28.2.1).length c2_29, Vi x28.2.2]), (62, .slice a0_29 (x28.1).length c0_29), (63, .slice a2_29 (x28.2.1).length c2_29), (64, Vi x28.2.2), (11, .slice a0_29 (x28.1).length c0_29), (12, .slice a2_29 (x28.2.1).length c2_29), (13, Vi x28.2.2)] _ _ _ (by kernel_rfl) ?_
 refine x_ek ?_
 refine c_norm [(0, Vi (IntKind.i64.wrap (31 + (Int.tmod (IntKind.i64.wrap ((Int.tmod p0 3) + 3)) 3)))), (1, Vi (IntKind.i64.wrap (31 + (Int.tmod (IntKind.i64.wrap ((Int.tmod p1 3) + 3)) 3)))), (2, Vi (Int.tmod (IntKind.i64.wrap ((Int.tmod p2 2) + 2)) 2)), (7, .slice a3_j1 ((d3_l7.set (Int.toNat (IntKind.i64.wrap (Int.tdiv (IntKind.i64.wrap (31 + (Int.tmod (IntKind.i64.wrap ((Int.tmod p0 3) + 3)) 3))) 2))) (IntKind.i64.wrap (x20 + (Int.tmod (IntKind.i64.wrap ((Int.tmod p2 2) + 2)) 2))))).length c3_j1), (8, .slice a5_j1 (d5_l14).length c5_j1), (11, .slice a0_29 (x28.1).length c0_29), (12, .slice a2_29 (x28.2.1).length c2_29), (13, Vi x28.2.2)] ⟨rfl, rfl, rfl, rfl, rfl, rfl, rfl, rfl, trivial⟩ (fun J => ?_)
 refine c_seq ?_
 refine c_block ?_
 refine c_join (σ := Bool) (fun s => match s with | t65__s65_j33 => [(0, Vi (IntKind.i64.wrap (31 + (Int.tmod (IntKind.i64.wrap ((Int.tmod p0 3) + 3)) 3)))), (1, Vi (IntKind.i64.wrap (31 + (Int.tmod (IntKind.i64.wrap ((Int.tmod p1 3) + 3)) 3)))), (2, Vi (Int.tmod (IntKind.i64.wrap ((Int.tmod p2 2) + 2)) 2)), (7, .slice a3_j1 ((d3_l7.set (Int.toNat (IntKind.i64.wrap (Int.tdiv (IntKind.i64.wrap (31 + (Int.tmod (IntKind.i64.wrap ((Int.tmod p0 3) + 3)) 3))) 2))) (IntKind.i64.wrap (x20 + (Int.tmod (IntKind.i64.wrap ((Int.tmod p2 2) + 2)) 2))))).length c3_j1), (8, .slice a5_j1 (d5_l14).length c5_j1), (11, .slice a0_29 (x28.1).length c0_29), (12, .slice a2_29 (x28.2.1).length c2_29), (13, Vi x28.2.2), (65, .bool t65__s65_j33)]) (fun s w' => match s with | t65__s65_j33 => law16_AssignLimits_J33 p0 p1 p2 d3_l7 d5_l14 x20 x28 t65__s65_j33 = some r ∧ Ev [] w w' ∧ MS w' [blk a3_j1, blk a5_j1, []] ∧ FR w.heap.size [blk a3_j1, blk a5_j1] ∧ OwnS (eInt .i64) 3 w' (fl [blk a3_j1, blk a5_j1, []]) a3_j1 c3_j1 (d3_l7.set (Int.toNat (IntKind.i64.wrap (Int.tdiv (IntKind.i64.wrap (31 + (Int.tmod (IntKind.i64.wrap ((Int.tmod p0 3) + 3)) 3))) 2))) (IntKind.i64.wrap (x20 + (Int.tmod (IntKind.i64.wrap ((Int.tmod p2 2) + 2)) 2)))) ∧ OwnS (eInt .i64) 3 w' (fl [blk a3_j1, blk a5_j1, []]) a5_j1 c5_j1 d5_l14 ∧ SlR (eInt .i64) w' (fl [blk a3_j1, blk a5_j1, []]) a0_29 c0_29 x28.1 ∧ SlR (eInt .i64) w' (fl [blk a3_j1, blk a5_j1, []]) a2_29 c2_29 x28.2.1) ?_ ?_
 · refine c_plain ?_
   refine x_pure 3 [(66, Vi (IntKind.i64.wrap (31 + (Int.tmod (IntKind.i64.wrap ((Int.tmod p0 3) + 3)) 3)))), (67, .bool (decide ((IntKind.i64.wrap (31 + (Int.tmod (IntKind.i64.wrap ((Int.tmod p0 3) + 3)) 3))) > 32))), (68, .bool (decide ((IntKind.i64.wrap (31 + (Int.tmod (IntKind.i64.wrap ((Int.tmod p0 3) + 3)) 3))) > 32)))] _ _ _ (by kernel_rfl) ?_
   refine x_split 68 (decide ((IntKind.i64.wrap (31 + (Int.tmod (IntKind.i64.wrap ((Int.tmod p0 3) + 3)) 3))) > 32)) rfl (fun hb => ?_) (fun hb => ?_)
   · replace h := ite_t hb h
     refine x_pure 4 [(69, undef), (70, undef), (71, .bool true), (65, .bool true)] _ _ _ (by kernel_rfl) ?_
     refine x_end rfl ?_
     exact k_then ⟨true, ⟨rfl, rfl, rfl, rfl, rfl, rfl, rfl, rfl, rfl, trivial⟩, h, hev, hms, hfr, hj3_j1, hj5_j1, hf29_1, hf29_2⟩
   replace h := ite_f hb h
   refine x_pure 4 [(69, Vi (IntKind.i64.wrap (31 + (Int.tmod (IntKind.i64.wrap ((Int.tmod p1 3) + 3)) 3)))), (70, .bool (decide ((IntKind.i64.wrap (31 + (Int.tmod (IntKind.i64.wrap ((Int.tmod p1 3) + 3)) 3))) > 32))), (71, .bool (decide ((IntKind.i64.wrap (31 + (Int.tmod (IntKind.i64.wrap ((Int.tmod p1 3) + 3)) 3))) > 32))), (65, .bool (decide ((IntKind.i64.wrap (31 + (Int.tmod (IntKind.i64.wrap ((Int.tmod p1 3) + 3)) 3))) > 32)))] _ _ _ (by kernel_rfl) ?_
   refine x_end rfl ?_
   exact k_then ⟨decide ((IntKind.i64.wrap (31 + (Int.tmod (IntKind.i64.wrap ((Int.tmod p1 3) + 3)) 3))) > 32), ⟨rfl, rfl, rfl, rfl, rfl, rfl, rfl, rfl, rfl, trivial⟩, h, hev, hms, hfr, hj3_j1, hj5_j1, hf29_1, hf29_2⟩
 rintro t65__s65_j33 J wj33 ⟨h, hev, hms, hfr, hj3_j1, hj5_j1, hf29_1, hf29_2⟩
 refine c_cond t65__s65_j33 rfl (fun hb => ?_) (fun hb => ?_)
 · replace h := ite_t hb h
   refine c_sp ?_
   refine x_pure 3 [(72, Vi x28.2.2), (73, .bool (x28.2.2 == 3)), (74, .bool (x28.2.2 == 3))] _ _ _ (by kernel_rfl) ?_
   refine x_split 74 (x28.2.2 == 3) rfl (fun hb => ?_) (fun hb => ?_)
   · replace h := ite_t hb h
     refine x_pure 1 [(75, .slice a0_29 (x28.1).length c0_29)] _ _ _ (by kernel_rfl) ?_
     refine x_len (vs := [.slice a0_29 (x28.1).length c0_29]) (Vi ((x28.1).length : Int)) rfl rfl rfl (reads_len tsl22 _ _ _ _ _) ?_
     refine x_pure 1 [(77, .slice a2_29 (x28.2.1).length c2_29)] _ _ _ (by kernel_rfl) ?_
     refine x_len (vs := [.slice a2_29 (x28.2.1).length c2_29]) (Vi ((x28.2.1).length : Int)) rfl rfl rfl (reads_len tsl22 _ _ _ _ _) ?_
     refine x_pure 4 [(79, Vi (IntKind.i64.wrap (((x28.1).length : Int) + ((x28.2.1).length : Int)))), (80, .bool ((IntKind.i64.wrap (((x28.1).length : Int) + ((x28.2.1).length : Int))) == 0)), (81, .bool ((IntKind.i64.wrap (((x28.1).length : Int) + ((x28.2.1).length : Int))) == 0)), (82, .bool ((IntKind.i64.wrap (((x28.1).length : Int) + ((x28.2.1).length : Int))) == 0))] _ _ _ (by kernel_rfl) ?_
     refine x_split 82 ((IntKind.i64.wrap (((x28.1).length : Int) + ((x28.2.1).length : Int))) == 0) rfl (fun hb => ?_) (fun hb => ?_)
     · replace h := ite_t hb h
       obtain ⟨x34, hx, h⟩ := bind_some h
       have hcall := law16_sane_w _ wj33 hx
       refine x_call 9 #[] #[] [] _ rfl rfl rfl rfl hcall ?_
       rintro v w35 ⟨rfl, he35⟩
       clear hcall hx
       refine inl1 ?_
       have hst := Stp.ext (ls := [blk a3_j1, blk a5_j1, []]) he35
       replace hj3_j1 := hj3_j1.step hst he35 nn2
       replace hj5_j1 := hj5_j1.step hst he35 nn2
       replace hf29_1 := hf29_1.step hst
       replace hf29_2 := hf29_2.step hst
       replace hms := hms.ev he35
       replace hev := hev.ext he35
       refine x_pure 2 [(84, .bool x34), (6, .bool x34)] _ _ _ (by kernel_rfl) ?_
       refine x_ek ?_
       refine c_norm [(6, .bool x34)] ⟨rfl, trivial⟩ (fun J => ?_)
       refine c_ret ?_
       refine k_block_ret ?_
       refine k_then_ret ?_
       refine r_ret (r_vals [.bool x34] ⟨rfl, trivial⟩ ?_)
       have hx := some_inj h
       subst hx
       exact ⟨rfl, hev⟩
     replace h := ite_f hb h
     refine x_pure 3 [(83, undef), (84, .bool false), (6, .bool false)] _ _ _ (by kernel_rfl) ?_
     refine x_ek ?_
     refine c_norm [(6, .bool false)] ⟨rfl, trivial⟩ (fun J => ?_)
     refine c_ret ?_
     refine k_block_ret ?_
     refine k_then_ret ?_
     refine r_ret (r_vals [.bool false] ⟨rfl, trivial⟩ ?_)
     have hx := some_inj h
     subst hx
     exact ⟨rfl, hev⟩
   replace h := ite_f hb h
   refine x_pure 11 [(75, undef), (76, undef), (77, undef), (78, undef), (79, undef), (80, undef), (81, .bool false), (82, .bool false), (83, undef), (84, .bool false), (6, .bool false)] _ _ _ (by kernel_rfl) ?_
   refine x_ek ?_
   refine c_norm [(6, .bool false)] ⟨rfl, trivial⟩ (fun J => ?_)
   refine c_ret ?_
   refine k_block_ret ?_
   refine k_then_ret ?_
   refine r_ret (r_vals [.bool false] ⟨rfl, trivial⟩ ?_)
   have hx := some_inj h
   subst hx
   exact ⟨rfl, hev⟩
 replace h := ite_f hb h
 refine c_sp ?_
 refine x_pure 3 [(86, Vi (Int.tmod (IntKind.i64.wrap ((Int.tmod p2 2) + 2)) 2)), (87, .bool (decide ((Int.tmod (IntKind.i64.wrap ((Int.tmod p2 2) + 2)) 2) > 0))), (85, .bool (decide ((Int.tmod (IntKind.i64.wrap ((Int.tmod p2 2) + 2)) 2) > 0)))] _ _ _ (by kernel_rfl) ?_
 refine x_ek ?_
 refine c_norm [(0, Vi (IntKind.i64.wrap (31 + (Int.tmod (IntKind.i64.wrap ((Int.tmod p0 3) + 3)) 3)))), (1, Vi (IntKind.i64.wrap (31 + (Int.tmod (IntKind.i64.wrap ((Int.tmod p1 3) + 3)) 3)))), (7, .slice a3_j1 ((d3_l7.set (Int.toNat (IntKind.i64.wrap (Int.tdiv (IntKind.i64.wrap (31 + (Int.tmod (IntKind.i64.wrap ((Int.tmod p0 3) + 3)) 3))) 2))) (IntKind.i64.wrap (x20 + (Int.tmod (IntKind.i64.wrap ((Int.tmod p2 2) + 2)) 2))))).length c3_j1), (8, .slice a5_j1 (d5_l14).length c5_j1), (11, .slice a0_29 (x28.1).length c0_29), (12, .slice a2_29 (x28.2.1).length c2_29), (13, Vi x28.2.2), (85, .bool (decide ((Int.tmod (IntKind.i64.wrap ((Int.tmod p2 2) + 2)) 2) > 0)))] ⟨rfl, rfl, rfl, rfl, rfl, rfl, rfl, rfl, trivial⟩ (fun J => ?_)
 refine c_cond (decide ((Int.tmod (IntKind.i64.wrap ((Int.tmod p2 2) + 2)) 2) > 0)) rfl (fun hb => ?_) (fun hb => ?_)
 · replace h := ite_t hb h
   refine c_sp ?_
   refine x_pure 3 [(88, Vi x28.2.2), (89, .bool (x28.2.2 == 2)), (90, .bool (x28.2.2 == 2))] _ _ _ (by kernel_rfl) ?_
   refine x_split 90 (x28.2.2 == 2) rfl (fun hb => ?_) (fun hb => ?_)
   · replace h := ite_t hb h
     refine x_pure 1 [(91, .slice a0_29 (x28.1).length c0_29)] _ _ _ (by kernel_rfl) ?_
     refine x_len (vs := [.slice a0_29 (x28.1).length c0_29]) (Vi ((x28.1).length : Int)) rfl rfl rfl (reads_len tsl22 _ _ _ _ _) ?_
     refine x_pure 1 [(93, .slice a2_29 (x28.2.1).length c2_29)] _ _ _ (by kernel_rfl) ?_
     refine x_len (vs := [.slice a2_29 (x28.2.1).length c2_29]) (Vi ((x28.2.1).length : Int)) rfl rfl rfl (reads_len tsl22 _ _ _ _ _) ?_
     refine x_pure 4 [(95, Vi (IntKind.i64.wrap (((x28.1).length : Int) + ((x28.2.1).length : Int)))), (96, .bool ((IntKind.i64.wrap (((x28.1).length : Int) + ((x28.2.1).length : Int))) == 0)), (97, .bool ((IntKind.i64.wrap (((x28.1).length : Int) + ((x28.2.1).length : Int))) == 0)), (98, .bool ((IntKind.i64.wrap (((x28.1).length : Int) + ((x28.2.1).length : Int))) == 0))] _ _ _ (by kernel_rfl) ?_
     refine x_split 98 ((IntKind.i64.wrap (((x28.1).length : Int) + ((x28.2.1).length : Int))) == 0) rfl (fun hb => ?_) (fun hb => ?_)
     · replace h := ite_t hb h
       obtain ⟨x36, hx, h⟩ := bind_some h
       have hcall := law16_sane_w _ wj33 hx
       refine x_call 9 #[] #[] [] _ rfl rfl rfl rfl hcall ?_
       rintro v w37 ⟨rfl, he37⟩
       clear hcall hx
       refine inl1 ?_
       have hst := Stp.ext (ls := [blk a3_j1, blk a5_j1, []]) he37
       replace hj3_j1 := hj3_j1.step hst he37 nn2
       replace hj5_j1 := hj5_j1.step hst he37 nn2
       replace hf29_1 := hf29_1.step hst
       replace hf29_2 := hf29_2.step hst
       replace hms := hms.ev he37
       replace hev := hev.ext he37
       refine x_pure 2 [(100, .bool x36), (6, .bool x36)] _ _ _ (by kernel_rfl) ?_
       refine x_ek ?_
       refine c_norm [(6, .bool x36)] ⟨rfl, trivial⟩ (fun J => ?_)
       refine c_ret ?_
       refine k_block_ret ?_
       refine k_then_ret ?_
       refine r_ret (r_vals [.bool x36] ⟨rfl, trivial⟩ ?_)
       have hx := some_inj h
       subst hx
       exact ⟨rfl, hev⟩
     replace h := ite_f hb h
     refine x_pure 3 [(99, undef), (100, .bool false), (6, .bool false)] _ _ _ (by kernel_rfl) ?_
     refine x_ek ?_
     refine c_norm [(6, .bool false)] ⟨rfl, trivial⟩ (fun J => ?_)
     refine c_ret ?_
     refine k_block_ret ?_
     refine k_then_ret ?_
     refine r_ret (r_vals [.bool false] ⟨rfl, trivial⟩ ?_)
     have hx := some_inj h
     subst hx
     exact ⟨rfl, hev⟩
   replace h := ite_f hb h
   refine x_pure 11 [(91, undef), (92, undef), (93, undef), (94, undef), (95, undef), (96, undef), (97, .bool false), (98, .bool false), (99, undef), (100, .bool false), (6, .bool false)] _ _ _ (by kernel_rfl) ?_
   refine x_ek ?_
   refine c_norm [(6, .bool false)] ⟨rfl, trivial⟩ (fun J => ?_)
   refine c_ret ?_
   refine k_block_ret ?_
   refine k_then_ret ?_
   refine r_ret (r_vals [.bool false] ⟨rfl, trivial⟩ ?_)
   have hx := some_inj h
   subst hx
   exact ⟨rfl, hev⟩
 replace h := ite_f hb h
 refine c_sp ?_
 refine x_pure 4 [(102, Vi (IntKind.i64.wrap (31 + (Int.tmod (IntKind.i64.wrap ((Int.tmod p0 3) + 3)) 3)))), (103, Vi (IntKind.i64.wrap (31 + (Int.tmod (IntKind.i64.wrap ((Int.tmod p1 3) + 3)) 3)))), (104, .bool (decide ((IntKind.i64.wrap (31 + (Int.tmod (IntKind.i64.wrap ((Int.tmod p0 3) + 3)) 3))) > (IntKind.i64.wrap (31 + (Int.tmod (IntKind.i64.wrap ((Int.tmod p1 3) + 3)) 3)))))), (101, .bool (decide ((IntKind.i64.wrap (31 + (Int.tmod (IntKind.i64.wrap ((Int.tmod p0 3) + 3)) 3))) > (IntKind.i64.wrap (31 + (Int.tmod (IntKind.i64.wrap ((Int.tmod p1 3) + 3)) 3))))))] _ _ _ (by kernel_rfl) ?_
 refine x_ek ?_
 refine c_cond (decide ((IntKind.i64.wrap (31 + (Int.tmod (IntKind.i64.wrap ((Int.tmod p0 3) + 3)) 3))) > (IntKind.i64.wrap (31 + (Int.tmod (IntKind.i64.wrap ((Int.tmod p1 3) + 3)) 3))))) rfl (fun hb => ?_) (fun hb => ?_)
 · replace h := ite_t hb h
   refine c_sp ?_
   refine x_pure 3 [(105, Vi x28.2.2), (106, .bool (x28.2.2 == 14)), (107, .bool (x28.2.2 == 14))] _ _ _ (by kernel_rfl) ?_
   refine x_split 107 (x28.2.2 == 14) rfl (fun hb => ?_) (fun hb => ?_)
   · replace h := ite_t hb h
     refine x_pure 1 [(108, .slice a0_29 (x28.1).length c0_29)] _ _ _ (by kernel_rfl) ?_
     refine x_len (vs := [.slice a0_29 (x28.1).length c0_29]) (Vi ((x28.1).length : Int)) rfl rfl rfl (reads_len tsl22 _ _ _ _ _) ?_
     refine x_pure 3 [(110, .bool (((x28.1).length : Int) == 0)), (111, .bool (((x28.1).length : Int) == 0)), (112, .bool (((x28.1).length : Int) == 0))] _ _ _ (by kernel_rfl) ?_
     refine x_split 112 (((x28.1).length : Int) == 0) rfl (fun hb => ?_) (fun hb => ?_)
     · replace h := ite_t hb h
       refine x_pure 1 [(113, .slice a2_29 (x28.2.1).length c2_29)] _ _ _ (by kernel_rfl) ?_
       refine x_len (vs := [.slice a2_29 (x28.2.1).length c2_29]) (Vi ((x28.2.1).length : Int)) rfl rfl rfl (reads_len tsl22 _ _ _ _ _) ?_
       refine x_pure 5 [(115, Vi (IntKind.i64.wrap (31 + (Int.tmod (IntKind.i64.wrap ((Int.tmod p1 3) + 3)) 3)))), (116, Vi (IntKind.i64.wrap ((IntKind.i64.wrap (31 + (Int.tmod (IntKind.i64.wrap ((Int.tmod p1 3) + 3)) 3))) + 1))), (117, .bool (((x28.2.1).length : Int) == (IntKind.i64.wrap ((IntKind.i64.wrap (31 + (Int.tmod (IntKind.i64.wrap ((Int.tmod p1 3) + 3)) 3))) + 1)))), (118, .bool (((x28.2.1).length : Int) == (IntKind.i64.wrap ((IntKind.i64.wrap (31 + (Int.tmod (IntKind.i64.wrap ((Int.tmod p1 3) + 3)) 3))) + 1)))), (119, .bool (((x28.2.1).length : Int) == (IntKind.i64.wrap ((IntKind.i64.wrap (31 + (Int.tmod (IntKind.i64.wrap ((Int.tmod p1 3) + 3)) 3))) + 1))))] _ _ _ (by kernel_rfl) ?_
       refine x_split 119 (((x28.2.1).length : Int) == (IntKind.i64.wrap ((IntKind.i64.wrap (31 + (Int.tmod (IntKind.i64.wrap ((Int.tmod p1 3) + 3)) 3))) + 1))) rfl (fun hb => ?_) (fun hb => ?_)
       · replace h := ite_t hb h
         refine x_pure 3 [(120, .slice a3_j1 ((d3_l7.set (Int.toNat (IntKind.i64.wrap (Int.tdiv (IntKind.i64.wrap (31 + (Int.tmod (IntKind.i64.wrap ((Int.tmod p0 3) + 3)) 3))) 2))) (IntKind.i64.wrap (x20 + (Int.tmod (IntKind.i64.wrap ((Int.tmod p2 2) + 2)) 2))))).length c3_j1), (121, .slice a5_j1 (d5_l14).length c5_j1), (122, .slice a2_29 (x28.2.1).length c2_29)] _ _ _ (by kernel_rfl) ?_
         obtain ⟨x38, hx, h⟩ := bind_some h
         have hpk : MS wj33 ([] ++ [[]]) := hms.pick [some 2] _ rfl
         have hsb0 : ∀ x ∈ fl ([] ++ [[]]), x ∈ fl [blk a3_j1, blk a5_j1, []] := pick_sub [some 2] _ rfl
         have hsb : ∀ x ∈ fl ([] ++ [(fl [[]])]), x ∈ fl [blk a3_j1, blk a5_j1, []] := fun x hx => hsb0 x (fl_unfold x hx)
         have hcall := assign_Refuses_w a3_j1 c3_j1 (d3_l7.set (Int.toNat (IntKind.i64.wrap (Int.tdiv (IntKind.i64.wrap (31 + (Int.tmod (IntKind.i64.wrap ((Int.tmod p0 3) + 3)) 3))) 2))) (IntKind.i64.wrap (x20 + (Int.tmod (IntKind.i64.wrap ((Int.tmod p2 2) + 2)) 2)))) a5_j1 c5_j1 d5_l14 a2_29 c2_29 x28.2.1 _ wj33 (fl [[]]) (MS.fold (P := []) hpk) (hj3_j1.ro hsb (fun b hb hb2 => pick_out hms 0 rfl [some 2] ([] ++ [[]]) rfl rfl b hb (fl_unfold b hb2))) (hj5_j1.ro hsb (fun b hb hb2 => pick_out hms 1 rfl [some 2] ([] ++ [[]]) rfl rfl b hb (fl_unfold b hb2))) (hf29_2.sub hsb) hx
         refine x_call 10 #[] #[] [.slice a3_j1 ((d3_l7.set (Int.toNat (IntKind.i64.wrap (Int.tdiv (IntKind.i64.wrap (31 + (Int.tmod (IntKind.i64.wrap ((Int.tmod p0 3) + 3)) 3))) 2))) (IntKind.i64.wrap (x20 + (Int.tmod (IntKind.i64.wrap ((Int.tmod p2 2) + 2)) 2))))).length c3_j1, .slice a5_j1 (d5_l14).length c5_j1, .slice a2_29 (x28.2.1).length c2_29] _ rfl rfl rfl rfl hcall ?_
         rintro v w39 ⟨rfl, he39⟩
         clear hcall hx
         refine inl1 ?_
         have hst := Stp.ext (ls := [blk a3_j1, blk a5_j1, []]) he39
         replace hj3_j1 := hj3_j1.step hst he39 nn2
         replace hj5_j1 := hj5_j1.step hst he39 nn2
         replace hf29_1 := hf29_1.step hst
         replace hf29_2 := hf29_2.step hst
         replace hms := hms.ev he39
         replace hev := hev.ext he39
         clear hpk hsb hsb0
         refine x_pure 2 [(124, .bool x38), (125, .bool x38)] _ _ _ (by kernel_rfl) ?_
         refine x_split 125 x38 rfl (fun hb => ?_) (fun hb => ?_)
         · replace h := ite_t hb h
           obtain ⟨x40, hx, h⟩ := bind_some h
           have hcall := law16_sane_w _ w39 hx
           refine x_call 9 #[] #[] [] _ rfl rfl rfl rfl hcall ?_
           rintro v w41 ⟨rfl, he41⟩
           clear hcall hx
           refine inl1 ?_
           have hst := Stp.ext (ls := [blk a3_j1, blk a5_j1, []]) he41
           replace hj3_j1 := hj3_j1.step hst he41 nn2
           replace hj5_j1 := hj5_j1.step hst he41 nn2
           replace hf29_1 := hf29_1.step hst
           replace hf29_2 := hf29_2.step hst
           replace hms := hms.ev he41
           replace hev := hev.ext he41
           refine x_pure 2 [(127, .bool x40), (6, .bool x40)] _ _ _ (by kernel_rfl) ?_
           refine x_ek ?_
           refine c_norm [(6, .bool x40)] ⟨rfl, trivial⟩ (fun J => ?_)
           refine c_ret ?_
           refine k_block_ret ?_
           refine k_then_ret ?_
           refine r_ret (r_vals [.bool x40] ⟨rfl, trivial⟩ ?_)
           have hx := some_inj h
           subst hx
           exact ⟨rfl, hev⟩
         replace h := ite_f hb h
         refine x_pure 3 [(126, undef), (127, .bool false), (6, .bool false)] _ _ _ (by kernel_rfl) ?_
         refine x_ek ?_
         refine c_norm [(6, .bool false)] ⟨rfl, trivial⟩ (fun J => ?_)
         refine c_ret ?_
         refine k_block_ret ?_
         refine k_then_ret ?_
         refine r_ret (r_vals [.bool false] ⟨rfl, trivial⟩ ?_)
         have hx := some_inj h
         subst hx
         exact ⟨rfl, hev⟩
       replace h := ite_f hb h
       refine x_pure 9 [(120, undef), (121, undef), (122, undef), (123, undef), (124, .bool false), (125, .bool false), (126, undef), (127, .bool false), (6, .bool false)] _ _ _ (by kernel_rfl) ?_
       refine x_ek ?_
       refine c_norm [(6, .bool false)] ⟨rfl, trivial⟩ (fun J => ?_)
       refine c_ret ?_
       refine k_block_ret ?_
       refine k_then_ret ?_
       refine r_ret (r_vals [.bool false] ⟨rfl, trivial⟩ ?_)
       have hx := some_inj h
       subst hx
       exact ⟨rfl, hev⟩
     replace h := ite_f hb h
     refine x_pure 16 [(113, undef), (114, undef), (115, undef), (116, undef), (117, undef), (118, .bool false), (119, .bool false), (120, undef), (121, undef), (122, undef), (123, undef), (124, .bool false), (125, .bool false), (126, undef), (127, .bool false), (6, .bool false)] _ _ _ (by kernel_rfl) ?_
     refine x_ek ?_
     refine c_norm [(6, .bool false)] ⟨rfl, trivial⟩ (fun J => ?_)
     refine c_ret ?_
     refine k_block_ret ?_
     refine k_then_ret ?_
     refine r_ret (r_vals [.bool false] ⟨rfl, trivial⟩ ?_)
     have hx := some_inj h
     subst hx
     exact ⟨rfl, hev⟩
   replace h := ite_f hb h
   refine x_pure 21 [(108, undef), (109, undef), (110, undef), (111, .bool false), (112, .bool false), (113, undef), (114, undef), (115, undef), (116, undef), (117, undef), (118, .bool false), (119, .bool false), (120, undef), (121, undef), (122, undef), (123, undef), (124, .bool false), (125, .bool false), (126, undef), (127, .bool false), (6, .bool false)] _ _ _ (by kernel_rfl) ?_
   refine x_ek ?_
   refine c_norm [(6, .bool false)] ⟨rfl, trivial⟩ (fun J => ?_)
   refine c_ret ?_
   refine k_block_ret ?_
   refine k_then_ret ?_
   refine r_ret (r_vals [.bool false] ⟨rfl, trivial⟩ ?_)
   have hx := some_inj h
   subst hx
   exact ⟨rfl, hev⟩
 replace h := ite_f hb h
 refine c_skip ?_
 refine k_block ?_
 refine k_then ?_
 refine c_sp ?_
 refine x_pure 3 [(128, Vi x28.2.2), (129, .bool (x28.2.2 == 0)), (130, .bool (x28.2.2 == 0))] _ _ _ (by kernel_rfl) ?_
 refine x_split 130 (x28.2.2 == 0) rfl (fun hb => ?_) (fun hb => ?_)
 · replace h := ite_t hb h
   refine x_pure 1 [(131, .slice a2_29 (x28.2.1).length c2_29)] _ _ _ (by kernel_rfl) ?_
   refine x_len (vs := [.slice a2_29 (x28.2.1).length c2_29]) (Vi ((x28.2.1).length : Int)) rfl rfl rfl (reads_len tsl22 _ _ _ _ _) ?_
   refine x_pure 3 [(133, .bool (((x28.2.1).length : Int) == 0)), (134, .bool (((x28.2.1).length : Int) == 0)), (135, .bool (((x28.2.1).length : Int) == 0))] _ _ _ (by kernel_rfl) ?_
   refine x_split 135 (((x28.2.1).length : Int) == 0) rfl (fun hb => ?_) (fun hb => ?_)
   · replace h := ite_t hb h
     refine x_pure 3 [(136, .slice a3_j1 ((d3_l7.set (Int.toNat (IntKind.i64.wrap (Int.tdiv (IntKind.i64.wrap (31 + (Int.tmod (IntKind.i64.wrap ((Int.tmod p0 3) + 3)) 3))) 2))) (IntKind.i64.wrap (x20 + (Int.tmod (IntKind.i64.wrap ((Int.tmod p2 2) + 2)) 2))))).length c3_j1), (137, .slice a5_j1 (d5_l14).length c5_j1), (138, .slice a0_29 (x28.1).length c0_29)] _ _ _ (by kernel_rfl) ?_
     obtain ⟨x42, hx, h⟩ := bind_some h
     have hpk : MS wj33 ([] ++ [[]]) := hms.pick [some 2] _ rfl
     have hsb0 : ∀ x ∈ fl ([] ++ [[]]), x ∈ fl [blk a3_j1, blk a5_j1, []] := pick_sub [some 2] _ rfl
     have hsb : ∀ x ∈ fl ([] ++ [(fl [[]])]), x ∈ fl [blk a3_j1, blk a5_j1, []] := fun x hx => hsb0 x (fl_unfold x hx)
     have hcall := assign_Fits_w a3_j1 c3_j1 (d3_l7.set (Int.toNat (IntKind.i64.wrap (Int.tdiv (IntKind.i64.wrap (31 + (Int.tmod (IntKind.i64.wrap ((Int.tmod p0 3) + 3)) 3))) 2))) (IntKind.i64.wrap (x20 + (Int.tmod (IntKind.i64.wrap ((Int.tmod p2 2) + 2)) 2)))) a5_j1 c5_j1 d5_l14 a0_29 c0_29 x28.1 _ wj33 (fl [[]]) (MS.fold (P := []) hpk) (hj3_j1.ro hsb (fun b hb hb2 => pick_out hms 0 rfl [some 2] ([] ++ [[]]) rfl rfl b hb (fl_unfold b hb2))) (hj5_j1.ro hsb (fun b hb hb2 => pick_out hms 1 rfl [some 2] ([] ++ [[]]) rfl rfl b hb (fl_unfold b hb2))) (hf29_1.sub hsb) hx
     refine x_call 11 #[] #[] [.slice a3_j1 ((d3_l7.set (Int.toNat (IntKind.i64.wrap (Int.tdiv (IntKind.i64.wrap (31 + (Int.tmod (IntKind.i64.wrap ((Int.tmod p0 3) + 3)) 3))) 2))) (IntKind.i64.wrap (x20 + (Int.tmod (IntKind.i64.wrap ((Int.tmod p2 2) + 2)) 2))))).length c3_j1, .slice a5_j1 (d5_l14).length c5_j1, .slice a0_29 (x28.1).length c0_29] _ rfl rfl rfl rfl hcall ?_
     rintro v w43 ⟨rfl, he43⟩
     clear hcall hx
     refine inl1 ?_
     have hst := Stp.ext (ls := [blk a3_j1, blk a5_j1, []]) he43
     replace hj3_j1 := hj3_j1.step hst he43 nn2
     replace hj5_j1 := hj5_j1.step hst he43 nn2
     replace hf29_1 := hf29_1.step hst
     replace hf29_2 := hf29_2.step hst
     replace hms := hms.ev he43
     replace hev := hev.ext he43
     clear hpk hsb hsb0
     refine x_pure 2 [(140, .bool x42), (141, .bool x42)] _ _ _ (by kernel_rfl) ?_
     refine x_split 141 x42 rfl (fun hb => ?_) (fun hb => ?_)
     · replace h := ite_t hb h
       obtain ⟨x44, hx, h⟩ := bind_some h
       have hcall := law16_sane_w _ w43 hx
       refine x_call 9 #[] #[] [] _ rfl rfl rfl rfl hcall ?_
       rintro v w45 ⟨rfl, he45⟩
       clear hcall hx
       refine inl1 ?_
       have hst := Stp.ext (ls := [blk a3_j1, blk a5_j1, []]) he45
       replace hj3_j1 := hj3_j1.step hst he45 nn2
       replace hj5_j1 := hj5_j1.step hst he45 nn2
       replace hf29_1 := hf29_1.step hst
       replace hf29_2 := hf29_2.step hst
       replace hms := hms.ev he45
       replace hev := hev.ext he45
       refine x_pure 2 [(143, .bool x44), (6, .bool x44)] _ _ _ (by kernel_rfl) ?_
       refine x_ek ?_
       refine c_norm [(6, .bool x44)] ⟨rfl, trivial⟩ (fun J => ?_)
       refine c_ret ?_
       refine r_ret (r_vals [.bool x44] ⟨rfl, trivial⟩ ?_)
       have hx := some_inj h
       subst hx
       exact ⟨rfl, hev⟩
     replace h := ite_f hb h
     refine x_pure 3 [(142, undef), (143, .bool false), (6, .bool false)] _ _ _ (by kernel_rfl) ?_
     refine x_ek ?_
     refine c_norm [(6, .bool false)] ⟨rfl, trivial⟩ (fun J => ?_)
     refine c_ret ?_
     refine r_ret (r_vals [.bool false] ⟨rfl, trivial⟩ ?_)
     have hx := some_inj h
     subst hx
     exact ⟨rfl, hev⟩
   replace h := ite_f hb h
   refine x_pure 9 [(136, undef), (137, undef), (138, undef), (139, undef), (140, .bool false), (141, .bool false), (142, undef), (143, .bool false), (6, .bool false)] _ _ _ (by kernel_rfl) ?_
   refine x_ek ?_
   refine c_norm [(6, .bool false)] ⟨rfl, trivial⟩ (fun J => ?_)
   refine c_ret ?_
   refine r_ret (r_vals [.bool false] ⟨rfl, trivial⟩ ?_)
   have hx := some_inj h
   subst hx
   exact ⟨rfl, hev⟩
 replace h := ite_f hb h
 refine x_pure 14 [(131, undef), (132, undef), (133, undef), (134, .bool false), (135, .bool false), (136, undef), (137, undef), (138, undef), (139, undef), (140, .bool false), (141, .bool false), (142, undef), (143, .bool false), (6, .bool false)] _ _ _ (by kernel_rfl) ?_
 refine x_ek ?_
 refine c_norm [(6, .bool false)] ⟨rfl, trivial⟩ (fun J => ?_)
 refine c_ret ?_
 refine r_ret (r_vals [.bool false] ⟨rfl, trivial⟩ ?_)
 have hx := some_inj h
 subst hx
 exact ⟨rfl, hev⟩
end Go.Proofs.Ytdbomhhcebmkpaa
