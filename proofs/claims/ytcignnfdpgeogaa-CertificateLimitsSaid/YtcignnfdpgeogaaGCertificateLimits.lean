
/- Walks, printed by program: each function returns what the partial function of the same name returns. Conditions: those of each theorem. -/
import Derived.Test.YtcignnfdpgeogaaGT
import Derived.Test.YtcignnfdpgeogaaGcertificate
import Derived.Test.YtcignnfdpgeogaaGgen
import Derived.Test.YtcignnfdpgeogaaGlaw15proof
import Derived.Test.YtcignnfdpgeogaaGlaw15sane
set_option linter.unusedVariables false
set_option linter.unusedSimpArgs false
set_option maxRecDepth 4000
namespace Go.Proofs.Ytcignnfdpgeogaa
open Go Go.V Go.Proofs
def law15_CertificateLimits_J17 (p0 : Int) (p1 : Int) (d3_x3 : List Int) (d5_x9 : List Int) (x13 : (List Int) × Int) (t67__s67_j17 : Bool) : Option Bool :=
(if t67__s67_j17 = true then
(if (x13.2 == 3) = true then
(if (((x13.1).length : Int) == 0) = true then
((law15_sane).bind fun x18 =>
some x18)
else
some false)
else
some false)
else
((certificate_Decode x13.1).bind fun x20 =>
((idx d3_x3 (IntKind.i64.wrap (Int.tdiv (IntKind.i64.wrap (95 + (Int.tmod (IntKind.i64.wrap ((Int.tmod p0 3) + 3)) 3))) 2))).bind fun x27 =>
((certificate_Encode 12 (d3_x3.set (Int.toNat (IntKind.i64.wrap (Int.tdiv (IntKind.i64.wrap (95 + (Int.tmod (IntKind.i64.wrap ((Int.tmod p0 3) + 3)) 3))) 2))) 4096) d5_x9).bind fun x30 =>
((idx (d3_x3.set (Int.toNat (IntKind.i64.wrap (Int.tdiv (IntKind.i64.wrap (95 + (Int.tmod (IntKind.i64.wrap ((Int.tmod p0 3) + 3)) 3))) 2))) 4096) (IntKind.i64.wrap (Int.tdiv (IntKind.i64.wrap (95 + (Int.tmod (IntKind.i64.wrap ((Int.tmod p0 3) + 3)) 3))) 2))).bind fun x33 =>
(if (x13.2 == 0) = true then
(if (((x13.1).length : Int) == (IntKind.i64.wrap ((IntKind.i64.wrap (3 + (IntKind.i64.wrap (2 * (IntKind.i64.wrap (95 + (Int.tmod (IntKind.i64.wrap ((Int.tmod p0 3) + 3)) 3))))))) + (IntKind.i64.wrap (95 + (Int.tmod (IntKind.i64.wrap ((Int.tmod p1 3) + 3)) 3)))))) = true then
(if (x20.2 == 0) = true then
((gen_Proofs 12 ((d3_x3.set (Int.toNat (IntKind.i64.wrap (Int.tdiv (IntKind.i64.wrap (95 + (Int.tmod (IntKind.i64.wrap ((Int.tmod p0 3) + 3)) 3))) 2))) 4096).set (Int.toNat (IntKind.i64.wrap (Int.tdiv (IntKind.i64.wrap (95 + (Int.tmod (IntKind.i64.wrap ((Int.tmod p0 3) + 3)) 3))) 2))) (IntKind.i64.wrap (4095 - (IntKind.i64.wrap (Int.tdiv (IntKind.i64.wrap (95 + (Int.tmod (IntKind.i64.wrap ((Int.tmod p0 3) + 3)) 3))) 2))))) d5_x9 x20.1.1.1 x20.1.1.2 x20.1.2).bind fun x36 =>
(if x36 = true then
(if (x30.2 == 2) = true then
((law15_sane).bind fun x38 =>
some x38)
else
some false)
else
some false))
else
some false)
else
some false)
else
some false))))))

def law15_CertificateLimits_L9 (p1 : Int) (s : (List Int) × Int) : Option (Step ((List Int) × Int) (List Int)) :=
match s with
| (d5_l9, t47__s47_l9) =>
(if (decide (t47__s47_l9 < (((List.replicate (Int.toNat (IntKind.i64.wrap (95 + (Int.tmod (IntKind.i64.wrap ((Int.tmod p1 3) + 3)) 3)))) 0 : List Int)).length : Int))) = true then
((idx d5_l9 t47__s47_l9).bind fun x10 =>
some (.next ((d5_l9.set (Int.toNat t47__s47_l9) (Int.tmod t47__s47_l9 96)), IntKind.i64.wrap (t47__s47_l9 + 1))))
else
some (.done d5_l9))

def law15_CertificateLimits_L3 (p0 : Int) (s : (List Int) × Int) : Option (Step ((List Int) × Int) (List Int)) :=
match s with
| (d3_l3, t33__s33_l3) =>
(if (decide (t33__s33_l3 < (((List.replicate (Int.toNat (IntKind.i64.wrap (95 + (Int.tmod (IntKind.i64.wrap ((Int.tmod p0 3) + 3)) 3)))) 0 : List Int)).length : Int))) = true then
((idx d3_l3 t33__s33_l3).bind fun x5 =>
some (.next ((d3_l3.set (Int.toNat t33__s33_l3) (IntKind.i64.wrap (4095 - t33__s33_l3))), IntKind.i64.wrap (t33__s33_l3 + 1))))
else
some (.done d3_l3))

def law15_CertificateLimits_J1 (p0 : Int) (p1 : Int) : Option Bool :=
((loop (law15_CertificateLimits_L3 p0) ((List.replicate (Int.toNat (IntKind.i64.wrap (95 + (Int.tmod (IntKind.i64.wrap ((Int.tmod p0 3) + 3)) 3)))) 0 : List Int), 0)).bind fun d => match d with
| d3_x3 => ((loop (law15_CertificateLimits_L9 p1) ((List.replicate (Int.toNat (IntKind.i64.wrap (95 + (Int.tmod (IntKind.i64.wrap ((Int.tmod p1 3) + 3)) 3)))) 0 : List Int), 0)).bind fun d => match d with
| d5_x9 => ((certificate_Encode 12 d3_x3 d5_x9).bind fun x13 =>
(if (decide ((IntKind.i64.wrap (95 + (Int.tmod (IntKind.i64.wrap ((Int.tmod p0 3) + 3)) 3))) > 96)) = true then
law15_CertificateLimits_J17 p0 p1 d3_x3 d5_x9 x13 true
else
law15_CertificateLimits_J17 p0 p1 d3_x3 d5_x9 x13 (decide ((IntKind.i64.wrap (95 + (Int.tmod (IntKind.i64.wrap ((Int.tmod p1 3) + 3)) 3))) > 96))))))

def law15_CertificateLimits (p0 : Int) (p1 : Int) : Option Bool :=
(if (0 : Int) ≤ IntKind.i64.wrap (95 + (Int.tmod (IntKind.i64.wrap ((Int.tmod p0 3) + 3)) 3)) ∧ (IntKind.i64.wrap (95 + (Int.tmod (IntKind.i64.wrap ((Int.tmod p0 3) + 3)) 3)) : Int) ≤ 4294967296 then
(if (0 : Int) ≤ IntKind.i64.wrap (95 + (Int.tmod (IntKind.i64.wrap ((Int.tmod p1 3) + 3)) 3)) ∧ (IntKind.i64.wrap (95 + (Int.tmod (IntKind.i64.wrap ((Int.tmod p1 3) + 3)) 3)) : Int) ≤ 4294967296 then
law15_CertificateLimits_J1 p0 p1
else none)
else none)

theorem law15_CertificateLimits_w (p0 : Int) (p1 : Int) (r : Bool) (w : World) (h : law15_CertificateLimits p0 p1 = some r) : CallVC Try.prog 5 [Vi p0, Vi p1] w fun v w' => v = .bool r ∧ Ev [] w w' := by
 refine calls_vc hmx Try.func5 (by kernel_rfl) rfl (rs := [.tmp 4]) rfl (by kernel_rfl) (args := [Vi p0, Vi p1]) rfl ?_
 have hev : Ev [] w w := Ev.refl _ _
 have hms : MS w [[]] := ⟨List.pairwise_singleton _ _, fun l hl b hb => by simp only [List.mem_singleton] at hl; subst hl; cases hb⟩
 have hfr : FR w.heap.size [] := FR.nil _
 refine c_sp ?_
 refine x_u 1 [(4, .bool false)] ?_
 refine x_ek ?_
 refine c_sp ?_
 refine x_u 12 [(14, Vi p0), (15, Vi (Int.tmod p0 3)), (16, Vi (IntKind.i64.wrap ((Int.tmod p0 3) + 3))), (17, Vi (Int.tmod (IntKind.i64.wrap ((Int.tmod p0 3) + 3)) 3)), (18, Vi (IntKind.i64.wrap (95 + (Int.tmod (IntKind.i64.wrap ((Int.tmod p0 3) + 3)) 3)))), (19, Vi p1), (20, Vi (Int.tmod p1 3)), (21, Vi (IntKind.i64.wrap ((Int.tmod p1 3) + 3))), (22, Vi (Int.tmod (IntKind.i64.wrap ((Int.tmod p1 3) + 3)) 3)), (23, Vi (IntKind.i64.wrap (95 + (Int.tmod (IntKind.i64.wrap ((Int.tmod p1 3) + 3)) 3)))), (0, Vi (IntKind.i64.wrap (95 + (Int.tmod (IntKind.i64.wrap ((Int.tmod p0 3) + 3)) 3)))), (1, Vi (IntKind.i64.wrap (95 + (Int.tmod (IntKind.i64.wrap ((Int.tmod p1 3) + 3)) 3))))] ?_
 refine x_ek ?_
 refine c_join (σ := Nat × Option Addr × Nat × Option Addr × Nat) (fun s => match s with | (b8_j1, a3_j1, c3_j1, a5_j1, c5_j1) => [(0, Vi (IntKind.i64.wrap (95 + (Int.tmod (IntKind.i64.wrap ((Int.tmod p0 3) + 3)) 3)))), (1, Vi (IntKind.i64.wrap (95 + (Int.tmod (IntKind.i64.wrap ((Int.tmod p1 3) + 3)) 3)))), (5, Vp b8_j1 0)]) (fun s w' => match s with | (b8_j1, a3_j1, c3_j1, a5_j1, c5_j1) => law15_CertificateLimits_J1 p0 p1 = some r ∧ Ev [] w w' ∧ MS w' [blk a3_j1, blk a5_j1, [b8_j1], []] ∧ FR w.heap.size [blk a3_j1, blk a5_j1, [b8_j1]] ∧ OwnS (eInt .i64) 3 w' (fl [blk a3_j1, blk a5_j1, [b8_j1], []]) a3_j1 c3_j1 (List.replicate (Int.toNat (IntKind.i64.wrap (95 + (Int.tmod (IntKind.i64.wrap ((Int.tmod p0 3) + 3)) 3)))) 0 : List Int) ∧ OwnS (eInt .i64) 3 w' (fl [blk a3_j1, blk a5_j1, [b8_j1], []]) a5_j1 c5_j1 (List.replicate (Int.toNat (IntKind.i64.wrap (95 + (Int.tmod (IntKind.i64.wrap ((Int.tmod p1 3) + 3)) 3)))) 0 : List Int) ∧ w'.heap[b8_j1]? = some (.cells #[Vi 12, .slice a3_j1 ((List.replicate (Int.toNat (IntKind.i64.wrap (95 + (Int.tmod (IntKind.i64.wrap ((Int.tmod p0 3) + 3)) 3)))) 0 : List Int)).length c3_j1, .slice a5_j1 ((List.replicate (Int.toNat (IntKind.i64.wrap (95 + (Int.tmod (IntKind.i64.wrap ((Int.tmod p1 3) + 3)) 3)))) 0 : List Int)).length c5_j1] 29 (0, 0))) ?_ ?_
 · refine c_drawnp [] [(0, false), (2, false)] (.alt 1 false (opsThen [] (.alt 3 false (opsThen [] (.alt 4 false (opsThen [(5, false), (6, true)] .stop) (.alt 5 false (opsThen [(4, false), (6, true)] .stop) .none_))) (.alt 5 false (opsThen [(3, false), (4, false), (6, true)] .stop) .none_))) (.alt 3 false (opsThen [] (.alt 1 false (opsThen [] (.alt 4 false (opsThen [(5, false), (6, true)] .stop) (.alt 5 false (opsThen [(4, false), (6, true)] .stop) .none_))) (.alt 5 false (opsThen [(1, false), (4, false), (6, true)] .stop) .none_))) (.alt 5 false (opsThen [] (.alt 1 false (opsThen [(3, false), (4, false), (6, true)] .stop) (.alt 3 false (opsThen [(1, false), (4, false), (6, true)] .stop) .none_))) .none_))) _ (by kernel_rfl) rfl ?_
   replace hms := hms.ev (Ev.drew w)
   replace hev := hev.ext (Ev.drew w)
   refine x_u 2 [(24, Vi (IntKind.i64.wrap (95 + (Int.tmod (IntKind.i64.wrap ((Int.tmod p0 3) + 3)) 3)))), (26, Vi (IntKind.i64.wrap (95 + (Int.tmod (IntKind.i64.wrap ((Int.tmod p1 3) + 3)) 3))))] ?_
   refine x_end rfl ?_
   refine t_alt _ rfl ?_ ?_
   · have hg := guard_l h
     replace h := guard_r h
     obtain ⟨a2, c2, w2, hr2, he2, hn2, hw2⟩ := own_make (e := (eInt .i64)) tel22 (w).drew (IntKind.i64.wrap (95 + (Int.tmod (IntKind.i64.wrap ((Int.tmod p0 3) + 3)) 3))) hg.1 hg.2 0 (fun _ _ => rfl)
     refine x_makeSlice _ w2 (xv := Vi (IntKind.i64.wrap (95 + (Int.tmod (IntKind.i64.wrap ((Int.tmod p0 3) + 3)) 3)))) (yv := Vi (IntKind.i64.wrap (95 + (Int.tmod (IntKind.i64.wrap ((Int.tmod p0 3) + 3)) 3)))) rfl rfl rfl rfl hr2 ?_
     refine ⟨.inr he2, ?_⟩
     replace hms := hms.push he2 hn2
     replace hfr := hfr.push (fun b hb => Nat.le_trans hev.size (hn2 b hb).1)
     replace hev := hev.ext he2
     have ho2 := hw2 (fl [blk a2, []])
     clear hw2
     refine x_end rfl ?_
     refine t_alt _ rfl ?_ ?_
     · have hg := guard_l h
       replace h := guard_r h
       obtain ⟨a4, c4, w4, hr4, he4, hn4, hw4⟩ := own_make (e := (eInt .i64)) tel22 w2 (IntKind.i64.wrap (95 + (Int.tmod (IntKind.i64.wrap ((Int.tmod p1 3) + 3)) 3))) hg.1 hg.2 0 (fun _ _ => rfl)
       refine x_makeSlice _ w4 (xv := Vi (IntKind.i64.wrap (95 + (Int.tmod (IntKind.i64.wrap ((Int.tmod p1 3) + 3)) 3)))) (yv := Vi (IntKind.i64.wrap (95 + (Int.tmod (IntKind.i64.wrap ((Int.tmod p1 3) + 3)) 3)))) rfl rfl rfl rfl hr4 ?_
       refine ⟨.inr he4, ?_⟩
       have hst := Stp.push (ls := [blk a2, []]) (l := blk a4) he4 (fun _ h => by cases h) (fun b hb => (hn4 b hb).1)
       replace ho2 := ho2.step hst he4 nn2
       replace hms := hms.push he4 hn4
       replace hfr := hfr.push (fun b hb => Nat.le_trans hev.size (hn4 b hb).1)
       replace hev := hev.ext he4
       have ho4 := hw4 (fl [blk a4, blk a2, []])
       clear hw4
       refine x_end rfl ?_
       refine t_alt _ rfl ?_ ?_
       · have hcall := law15_proof_p 12 a2 c2 (List.replicate (Int.toNat (IntKind.i64.wrap (95 + (Int.tmod (IntKind.i64.wrap ((Int.tmod p0 3) + 3)) 3)))) 0 : List Int) a4 c4 (List.replicate (Int.toNat (IntKind.i64.wrap (95 + (Int.tmod (IntKind.i64.wrap ((Int.tmod p1 3) + 3)) 3)))) 0 : List Int) w4
         refine x_call 20 #[] #[] [Vi 12, .slice a2 ((List.replicate (Int.toNat (IntKind.i64.wrap (95 + (Int.tmod (IntKind.i64.wrap ((Int.tmod p0 3) + 3)) 3)))) 0 : List Int)).length c2, .slice a4 ((List.replicate (Int.toNat (IntKind.i64.wrap (95 + (Int.tmod (IntKind.i64.wrap ((Int.tmod p1 3) + 3)) 3)))) 0 : List Int)).length c4] _ rfl rfl rfl rfl hcall ?_
         rintro v w6 ⟨rfl, he6⟩
         clear hcall
         refine ⟨.inr he6, ?_⟩
         have hst := Stp.ext (ls := [blk a4, blk a2, []]) he6
         replace ho2 := ho2.step hst he6 nn2
         replace ho4 := ho4.step hst he6 nn2
         replace hms := hms.ev he6
         replace hev := hev.ext he6
         refine x_alloc (z := .agg #[Vi 0, .slice none 0 0, .slice none 0 0]) rfl rfl (by kernel_rfl) (fun b7 w7 hq7 hb7 he7 hz7 => ?_)
         replace hb7 : w7.heap[b7]? = some (.cells #[Vi 0, .slice none 0 0, .slice none 0 0] 29 (0, 0)) := hb7
         refine ⟨.inr he7, ?_⟩
         have hst := Stp.box (ls := [blk a4, blk a2, []]) he7 hq7
         replace ho2 := ho2.step hst he7 nn2
         replace ho4 := ho4.step hst he7 nn2
         replace hms := hms.box he7 hq7 hb7
         replace hfr := hfr.box hev.size hq7
         replace hev := hev.ext he7
         obtain ⟨w9, hr9, hb9, he9⟩ := store_boxagg 0 [Vi 12, .slice a2 ((List.replicate (Int.toNat (IntKind.i64.wrap (95 + (Int.tmod (IntKind.i64.wrap ((Int.tmod p0 3) + 3)) 3)))) 0 : List Int)).length c2, .slice a4 ((List.replicate (Int.toNat (IntKind.i64.wrap (95 + (Int.tmod (IntKind.i64.wrap ((Int.tmod p1 3) + 3)) 3)))) 0 : List Int)).length c4] #[Vi 12, .slice a2 ((List.replicate (Int.toNat (IntKind.i64.wrap (95 + (Int.tmod (IntKind.i64.wrap ((Int.tmod p0 3) + 3)) 3)))) 0 : List Int)).length c2, .slice a4 ((List.replicate (Int.toNat (IntKind.i64.wrap (95 + (Int.tmod (IntKind.i64.wrap ((Int.tmod p1 3) + 3)) 3)))) 0 : List Int)).length c4] tagg29 hb7 rfl rfl rfl
         refine x_store w9 (xv := Vp b7 0) (yv := .agg #[Vi 12, .slice a2 ((List.replicate (Int.toNat (IntKind.i64.wrap (95 + (Int.tmod (IntKind.i64.wrap ((Int.tmod p0 3) + 3)) 3)))) 0 : List Int)).length c2, .slice a4 ((List.replicate (Int.toNat (IntKind.i64.wrap (95 + (Int.tmod (IntKind.i64.wrap ((Int.tmod p1 3) + 3)) 3)))) 0 : List Int)).length c4]) rfl rfl rfl rfl hr9 ?_
         refine inl1 ?_
         have hst := Stp.ev' (ls := [[b7], blk a4, blk a2, []]) he9 (mem_flat 0 rfl)
         replace ho2 := ho2.step hst he9 (hms.apart 2 0 rfl rfl rfl)
         replace ho4 := ho4.step hst he9 (hms.apart 1 0 rfl rfl rfl)
         replace hms := hms.ev he9
         replace hev := hev.then he9 (fun b hb => .inr (hfr.at 0 rfl b hb))
         replace hb7 := hb9
         refine x_end rfl ?_
         refine t_stop ?_
         have hpk : MS w9 [blk a2, blk a4, [b7], []] := hms.pick [some 2, some 1, some 0, some 3] _ rfl
         have hsu : ∀ x ∈ fl [blk a2, blk a4, [b7], []], x ∈ fl [[b7], blk a4, blk a2, []] := pick_sub [some 2, some 1, some 0, some 3] _ rfl
         replace ho2 := ho2.sub hsu
         replace ho4 := ho4.sub hsu
         replace hms := hpk
         replace hfr : FR w.heap.size [blk a2, blk a4, [b7]] := hfr.pick [some 2, some 1, some 0] _ rfl
         clear hpk hsu
         exact k_then ⟨(b7, a2, c2, a4, c4), ⟨rfl, rfl, rfl, trivial⟩, h, hev, hms, hfr, ho2, ho4, hb7⟩
       refine t_alt _ rfl ?_ ?_
       · refine x_alloc (z := .agg #[Vi 0, .slice none 0 0, .slice none 0 0]) rfl rfl (by kernel_rfl) (fun b6 w6 hq6 hb6 he6 hz6 => ?_)
         replace hb6 : w6.heap[b6]? = some (.cells #[Vi 0, .slice none 0 0, .slice none 0 0] 29 (0, 0)) := hb6
         refine ⟨.inr he6, ?_⟩
         have hst := Stp.box (ls := [blk a4, blk a2, []]) he6 hq6
         replace ho2 := ho2.step hst he6 nn2
         replace ho4 := ho4.step hst he6 nn2
         replace hms := hms.box he6 hq6 hb6
         replace hfr := hfr.box hev.size hq6
         replace hev := hev.ext he6
         have hcall := law15_proof_p 12 a2 c2 (List.replicate (Int.toNat (IntKind.i64.wrap (95 + (Int.tmod (IntKind.i64.wrap ((Int.tmod p0 3) + 3)) 3)))) 0 : List Int) a4 c4 (List.replicate (Int.toNat (IntKind.i64.wrap (95 + (Int.tmod (IntKind.i64.wrap ((Int.tmod p1 3) + 3)) 3)))) 0 : List Int) w6
         refine x_call 20 #[] #[] [Vi 12, .slice a2 ((List.replicate (Int.toNat (IntKind.i64.wrap (95 + (Int.tmod (IntKind.i64.wrap ((Int.tmod p0 3) + 3)) 3)))) 0 : List Int)).length c2, .slice a4 ((List.replicate (Int.toNat (IntKind.i64.wrap (95 + (Int.tmod (IntKind.i64.wrap ((Int.tmod p1 3) + 3)) 3)))) 0 : List Int)).length c4] _ rfl rfl rfl rfl hcall ?_
         rintro v w8 ⟨rfl, he8⟩
         clear hcall
         refine ⟨.inr he8, ?_⟩
         have hst := Stp.ext (ls := [[b6], blk a4, blk a2, []]) he8
         replace ho2 := ho2.step hst he8 nn2
         replace ho4 := ho4.step hst he8 nn2
         replace hb6 := he8.box hb6 nn
         replace hms := hms.ev he8
         replace hev := hev.ext he8
         obtain ⟨w9, hr9, hb9, he9⟩ := store_boxagg 0 [Vi 12, .slice a2 ((List.replicate (Int.toNat (IntKind.i64.wrap (95 + (Int.tmod (IntKind.i64.wrap ((Int.tmod p0 3) + 3)) 3)))) 0 : List Int)).length c2, .slice a4 ((List.replicate (Int.toNat (IntKind.i64.wrap (95 + (Int.tmod (IntKind.i64.wrap ((Int.tmod p1 3) + 3)) 3)))) 0 : List Int)).length c4] #[Vi 12, .slice a2 ((List.replicate (Int.toNat (IntKind.i64.wrap (95 + (Int.tmod (IntKind.i64.wrap ((Int.tmod p0 3) + 3)) 3)))) 0 : List Int)).length c2, .slice a4 ((List.replicate (Int.toNat (IntKind.i64.wrap (95 + (Int.tmod (IntKind.i64.wrap ((Int.tmod p1 3) + 3)) 3)))) 0 : List Int)).length c4] tagg29 hb6 rfl rfl rfl
         refine x_store w9 (xv := Vp b6 0) (yv := .agg #[Vi 12, .slice a2 ((List.replicate (Int.toNat (IntKind.i64.wrap (95 + (Int.tmod (IntKind.i64.wrap ((Int.tmod p0 3) + 3)) 3)))) 0 : List Int)).length c2, .slice a4 ((List.replicate (Int.toNat (IntKind.i64.wrap (95 + (Int.tmod (IntKind.i64.wrap ((Int.tmod p1 3) + 3)) 3)))) 0 : List Int)).length c4]) rfl rfl rfl rfl hr9 ?_
         refine inl1 ?_
         have hst := Stp.ev' (ls := [[b6], blk a4, blk a2, []]) he9 (mem_flat 0 rfl)
         replace ho2 := ho2.step hst he9 (hms.apart 2 0 rfl rfl rfl)
         replace ho4 := ho4.step hst he9 (hms.apart 1 0 rfl rfl rfl)
         replace hms := hms.ev he9
         replace hev := hev.then he9 (fun b hb => .inr (hfr.at 0 rfl b hb))
         replace hb6 := hb9
         refine x_end rfl ?_
         refine t_stop ?_
         have hpk : MS w9 [blk a2, blk a4, [b6], []] := hms.pick [some 2, some 1, some 0, some 3] _ rfl
         have hsu : ∀ x ∈ fl [blk a2, blk a4, [b6], []], x ∈ fl [[b6], blk a4, blk a2, []] := pick_sub [some 2, some 1, some 0, some 3] _ rfl
         replace ho2 := ho2.sub hsu
         replace ho4 := ho4.sub hsu
         replace hms := hpk
         replace hfr : FR w.heap.size [blk a2, blk a4, [b6]] := hfr.pick [some 2, some 1, some 0] _ rfl
         clear hpk hsu
         exact k_then ⟨(b6, a2, c2, a4, c4), ⟨rfl, rfl, rfl, trivial⟩, h, hev, hms, hfr, ho2, ho4, hb6⟩
       exact t_none
     refine t_alt _ rfl ?_ ?_
     · refine x_alloc (z := .agg #[Vi 0, .slice none 0 0, .slice none 0 0]) rfl rfl (by kernel_rfl) (fun b4 w4 hq4 hb4 he4 hz4 => ?_)
       replace hb4 : w4.heap[b4]? = some (.cells #[Vi 0, .slice none 0 0, .slice none 0 0] 29 (0, 0)) := hb4
       refine ⟨.inr he4, ?_⟩
       have hst := Stp.box (ls := [blk a2, []]) he4 hq4
       replace ho2 := ho2.step hst he4 nn2
       replace hms := hms.box he4 hq4 hb4
       replace hfr := hfr.box hev.size hq4
       replace hev := hev.ext he4
       have hg := guard_l h
       replace h := guard_r h
       obtain ⟨a6, c6, w6, hr6, he6, hn6, hw6⟩ := own_make (e := (eInt .i64)) tel22 w4 (IntKind.i64.wrap (95 + (Int.tmod (IntKind.i64.wrap ((Int.tmod p1 3) + 3)) 3))) hg.1 hg.2 0 (fun _ _ => rfl)
       refine x_makeSlice _ w6 (xv := Vi (IntKind.i64.wrap (95 + (Int.tmod (IntKind.i64.wrap ((Int.tmod p1 3) + 3)) 3)))) (yv := Vi (IntKind.i64.wrap (95 + (Int.tmod (IntKind.i64.wrap ((Int.tmod p1 3) + 3)) 3)))) rfl rfl rfl rfl hr6 ?_
       refine ⟨.inr he6, ?_⟩
       have hst := Stp.push (ls := [[b4], blk a2, []]) (l := blk a6) he6 (fun _ h => by cases h) (fun b hb => (hn6 b hb).1)
       replace ho2 := ho2.step hst he6 nn2
       replace hb4 := he6.box hb4 nn
       replace hms := hms.push he6 hn6
       replace hfr := hfr.push (fun b hb => Nat.le_trans hev.size (hn6 b hb).1)
       replace hev := hev.ext he6
       have ho6 := hw6 (fl [blk a6, [b4], blk a2, []])
       clear hw6
       have hcall := law15_proof_p 12 a2 c2 (List.replicate (Int.toNat (IntKind.i64.wrap (95 + (Int.tmod (IntKind.i64.wrap ((Int.tmod p0 3) + 3)) 3)))) 0 : List Int) a6 c6 (List.replicate (Int.toNat (IntKind.i64.wrap (95 + (Int.tmod (IntKind.i64.wrap ((Int.tmod p1 3) + 3)) 3)))) 0 : List Int) w6
       refine x_call 20 #[] #[] [Vi 12, .slice a2 ((List.replicate (Int.toNat (IntKind.i64.wrap (95 + (Int.tmod (IntKind.i64.wrap ((Int.tmod p0 3) + 3)) 3)))) 0 : List Int)).length c2, .slice a6 ((List.replicate (Int.toNat (IntKind.i64.wrap (95 + (Int.tmod (IntKind.i64.wrap ((Int.tmod p1 3) + 3)) 3)))) 0 : List Int)).length c6] _ rfl rfl rfl rfl hcall ?_
       rintro v w8 ⟨rfl, he8⟩
       clear hcall
       refine ⟨.inr he8, ?_⟩
       have hst := Stp.ext (ls := [blk a6, [b4], blk a2, []]) he8
       replace ho2 := ho2.step hst he8 nn2
       replace hb4 := he8.box hb4 nn
       replace ho6 := ho6.step hst he8 nn2
       replace hms := hms.ev he8
       replace hev := hev.ext he8
       obtain ⟨w9, hr9, hb9, he9⟩ := store_boxagg 0 [Vi 12, .slice a2 ((List.replicate (Int.toNat (IntKind.i64.wrap (95 + (Int.tmod (IntKind.i64.wrap ((Int.tmod p0 3) + 3)) 3)))) 0 : List Int)).length c2, .slice a6 ((List.replicate (Int.toNat (IntKind.i64.wrap (95 + (Int.tmod (IntKind.i64.wrap ((Int.tmod p1 3) + 3)) 3)))) 0 : List Int)).length c6] #[Vi 12, .slice a2 ((List.replicate (Int.toNat (IntKind.i64.wrap (95 + (Int.tmod (IntKind.i64.wrap ((Int.tmod p0 3) + 3)) 3)))) 0 : List Int)).length c2, .slice a6 ((List.replicate (Int.toNat (IntKind.i64.wrap (95 + (Int.tmod (IntKind.i64.wrap ((Int.tmod p1 3) + 3)) 3)))) 0 : List Int)).length c6] tagg29 hb4 rfl rfl rfl
       refine x_store w9 (xv := Vp b4 0) (yv := .agg #[Vi 12, .slice a2 ((List.replicate (Int.toNat (IntKind.i64.wrap (95 + (Int.tmod (IntKind.i64.wrap ((Int.tmod p0 3) + 3)) 3)))) 0 : List Int)).length c2, .slice a6 ((List.replicate (Int.toNat (IntKind.i64.wrap (95 + (Int.tmod (IntKind.i64.wrap ((Int.tmod p1 3) + 3)) 3)))) 0 : List Int)).length c6]) rfl rfl rfl rfl hr9 ?_
       refine inl1 ?_
       have hst := Stp.ev' (ls := [blk a6, [b4], blk a2, []]) he9 (mem_flat 1 rfl)
       replace ho2 := ho2.step hst he9 (hms.apart 2 1 rfl rfl rfl)
       replace ho6 := ho6.step hst he9 (hms.apart 0 1 rfl rfl rfl)
       replace hms := hms.ev he9
       replace hev := hev.then he9 (fun b hb => .inr (hfr.at 1 rfl b hb))
       replace hb4 := hb9
       refine x_end rfl ?_
       refine t_stop ?_
       have hpk : MS w9 [blk a2, blk a6, [b4], []] := hms.pick [some 2, some 0, some 1, some 3] _ rfl
       have hsu : ∀ x ∈ fl [blk a2, blk a6, [b4], []], x ∈ fl [blk a6, [b4], blk a2, []] := pick_sub [some 2, some 0, some 1, some 3] _ rfl
       replace ho2 := ho2.sub hsu
       replace ho6 := ho6.sub hsu
       replace hms := hpk
       replace hfr : FR w.heap.size [blk a2, blk a6, [b4]] := hfr.pick [some 2, some 0, some 1] _ rfl
       clear hpk hsu
       exact k_then ⟨(b4, a2, c2, a6, c6), ⟨rfl, rfl, rfl, trivial⟩, h, hev, hms, hfr, ho2, ho6, hb4⟩
     exact t_none
   refine t_alt _ rfl ?_ ?_
   · have hpg0 := guard_l h
     replace h := guard_r h
     have hpg1 := guard_l h
     replace h := guard_r h
     replace h : (if (0 : Int) ≤ IntKind.i64.wrap (95 + (Int.tmod (IntKind.i64.wrap ((Int.tmod p1 3) + 3)) 3)) ∧ (IntKind.i64.wrap (95 + (Int.tmod (IntKind.i64.wrap ((Int.tmod p1 3) + 3)) 3)) : Int) ≤ 4294967296 then
(if (0 : Int) ≤ IntKind.i64.wrap (95 + (Int.tmod (IntKind.i64.wrap ((Int.tmod p0 3) + 3)) 3)) ∧ (IntKind.i64.wrap (95 + (Int.tmod (IntKind.i64.wrap ((Int.tmod p0 3) + 3)) 3)) : Int) ≤ 4294967296 then
law15_CertificateLimits_J1 p0 p1
else none)
else none) = _ := (guard_i hpg1 (guard_i hpg0 h))
     clear hpg0 hpg1
     have hg := guard_l h
     replace h := guard_r h
     obtain ⟨a2, c2, w2, hr2, he2, hn2, hw2⟩ := own_make (e := (eInt .i64)) tel22 (w).drew (IntKind.i64.wrap (95 + (Int.tmod (IntKind.i64.wrap ((Int.tmod p1 3) + 3)) 3))) hg.1 hg.2 0 (fun _ _ => rfl)
     refine x_makeSlice _ w2 (xv := Vi (IntKind.i64.wrap (95 + (Int.tmod (IntKind.i64.wrap ((Int.tmod p1 3) + 3)) 3)))) (yv := Vi (IntKind.i64.wrap (95 + (Int.tmod (IntKind.i64.wrap ((Int.tmod p1 3) + 3)) 3)))) rfl rfl rfl rfl hr2 ?_
     refine ⟨.inr he2, ?_⟩
     replace hms := hms.push he2 hn2
     replace hfr := hfr.push (fun b hb => Nat.le_trans hev.size (hn2 b hb).1)
     replace hev := hev.ext he2
     have ho2 := hw2 (fl [blk a2, []])
     clear hw2
     refine x_end rfl ?_
     refine t_alt _ rfl ?_ ?_
     · have hg := guard_l h
       replace h := guard_r h
       obtain ⟨a4, c4, w4, hr4, he4, hn4, hw4⟩ := own_make (e := (eInt .i64)) tel22 w2 (IntKind.i64.wrap (95 + (Int.tmod (IntKind.i64.wrap ((Int.tmod p0 3) + 3)) 3))) hg.1 hg.2 0 (fun _ _ => rfl)
       refine x_makeSlice _ w4 (xv := Vi (IntKind.i64.wrap (95 + (Int.tmod (IntKind.i64.wrap ((Int.tmod p0 3) + 3)) 3)))) (yv := Vi (IntKind.i64.wrap (95 + (Int.tmod (IntKind.i64.wrap ((Int.tmod p0 3) + 3)) 3)))) rfl rfl rfl rfl hr4 ?_
       refine ⟨.inr he4, ?_⟩
       have hst := Stp.push (ls := [blk a2, []]) (l := blk a4) he4 (fun _ h => by cases h) (fun b hb => (hn4 b hb).1)
       replace ho2 := ho2.step hst he4 nn2
       replace hms := hms.push he4 hn4
       replace hfr := hfr.push (fun b hb => Nat.le_trans hev.size (hn4 b hb).1)
       replace hev := hev.ext he4
       have ho4 := hw4 (fl [blk a4, blk a2, []])
       clear hw4
       refine x_end rfl ?_
       refine t_alt _ rfl ?_ ?_
       · have hcall := law15_proof_p 12 a4 c4 (List.replicate (Int.toNat (IntKind.i64.wrap (95 + (Int.tmod (IntKind.i64.wrap ((Int.tmod p0 3) + 3)) 3)))) 0 : List Int) a2 c2 (List.replicate (Int.toNat (IntKind.i64.wrap (95 + (Int.tmod (IntKind.i64.wrap ((Int.tmod p1 3) + 3)) 3)))) 0 : List Int) w4
         refine x_call 20 #[] #[] [Vi 12, .slice a4 ((List.replicate (Int.toNat (IntKind.i64.wrap (95 + (Int.tmod (IntKind.i64.wrap ((Int.tmod p0 3) + 3)) 3)))) 0 : List Int)).length c4, .slice a2 ((List.replicate (Int.toNat (IntKind.i64.wrap (95 + (Int.tmod (IntKind.i64.wrap ((Int.tmod p1 3) + 3)) 3)))) 0 : List Int)).length c2] _ rfl rfl rfl rfl hcall ?_
         rintro v w6 ⟨rfl, he6⟩
         clear hcall
         refine ⟨.inr he6, ?_⟩
         have hst := Stp.ext (ls := [blk a4, blk a2, []]) he6
         replace ho2 := ho2.step hst he6 nn2
         replace ho4 := ho4.step hst he6 nn2
         replace hms := hms.ev he6
         replace hev := hev.ext he6
         refine x_alloc (z := .agg #[Vi 0, .slice none 0 0, .slice none 0 0]) rfl rfl (by kernel_rfl) (fun b7 w7 hq7 hb7 he7 hz7 => ?_)
         replace hb7 : w7.heap[b7]? = some (.cells #[Vi 0, .slice none 0 0, .slice none 0 0] 29 (0, 0)) := hb7
         refine ⟨.inr he7, ?_⟩
         have hst := Stp.box (ls := [blk a4, blk a2, []]) he7 hq7
         replace ho2 := ho2.step hst he7 nn2
         replace ho4 := ho4.step hst he7 nn2
         replace hms := hms.box he7 hq7 hb7
         replace hfr := hfr.box hev.size hq7
         replace hev := hev.ext he7
         obtain ⟨w9, hr9, hb9, he9⟩ := store_boxagg 0 [Vi 12, .slice a4 ((List.replicate (Int.toNat (IntKind.i64.wrap (95 + (Int.tmod (IntKind.i64.wrap ((Int.tmod p0 3) + 3)) 3)))) 0 : List Int)).length c4, .slice a2 ((List.replicate (Int.toNat (IntKind.i64.wrap (95 + (Int.tmod (IntKind.i64.wrap ((Int.tmod p1 3) + 3)) 3)))) 0 : List Int)).length c2] #[Vi 12, .slice a4 ((List.replicate (Int.toNat (IntKind.i64.wrap (95 + (Int.tmod (IntKind.i64.wrap ((Int.tmod p0 3) + 3)) 3)))) 0 : List Int)).length c4, .slice a2 ((List.replicate (Int.toNat (IntKind.i64.wrap (95 + (Int.tmod (IntKind.i64.wrap ((Int.tmod p1 3) + 3)) 3)))) 0 : List Int)).length c2] tagg29 hb7 rfl rfl rfl
         refine x_store w9 (xv := Vp b7 0) (yv := .agg #[Vi 12, .slice a4 ((List.replicate (Int.toNat (IntKind.i64.wrap (95 + (Int.tmod (IntKind.i64.wrap ((Int.tmod p0 3) + 3)) 3)))) 0 : List Int)).length c4, .slice a2 ((List.replicate (Int.toNat (IntKind.i64.wrap (95 + (Int.tmod (IntKind.i64.wrap ((Int.tmod p1 3) + 3)) 3)))) 0 : List Int)).length c2]) rfl rfl rfl rfl hr9 ?_
         refine inl1 ?_
         have hst := Stp.ev' (ls := [[b7], blk a4, blk a2, []]) he9 (mem_flat 0 rfl)
         replace ho2 := ho2.step hst he9 (hms.apart 2 0 rfl rfl rfl)
         replace ho4 := ho4.step hst he9 (hms.apart 1 0 rfl rfl rfl)
         replace hms := hms.ev he9
         replace hev := hev.then he9 (fun b hb => .inr (hfr.at 0 rfl b hb))
         replace hb7 := hb9
         refine x_end rfl ?_
         refine t_stop ?_
         have hpk : MS w9 [blk a4, blk a2, [b7], []] := hms.pick [some 1, some 2, some 0, some 3] _ rfl
         have hsu : ∀ x ∈ fl [blk a4, blk a2, [b7], []], x ∈ fl [[b7], blk a4, blk a2, []] := pick_sub [some 1, some 2, some 0, some 3] _ rfl
         replace ho4 := ho4.sub hsu
         replace ho2 := ho2.sub hsu
         replace hms := hpk
         replace hfr : FR w.heap.size [blk a4, blk a2, [b7]] := hfr.pick [some 1, some 2, some 0] _ rfl
         clear hpk hsu
         exact k_then ⟨(b7, a4, c4, a2, c2), ⟨rfl, rfl, rfl, trivial⟩, h, hev, hms, hfr, ho4, ho2, hb7⟩
       refine t_alt _ rfl ?_ ?_
       · refine x_alloc (z := .agg #[Vi 0, .slice none 0 0, .slice none 0 0]) rfl rfl (by kernel_rfl) (fun b6 w6 hq6 hb6 he6 hz6 => ?_)
         replace hb6 : w6.heap[b6]? = some (.cells #[Vi 0, .slice none 0 0, .slice none 0 0] 29 (0, 0)) := hb6
         refine ⟨.inr he6, ?_⟩
         have hst := Stp.box (ls := [blk a4, blk a2, []]) he6 hq6
         replace ho2 := ho2.step hst he6 nn2
         replace ho4 := ho4.step hst he6 nn2
         replace hms := hms.box he6 hq6 hb6
         replace hfr := hfr.box hev.size hq6
         replace hev := hev.ext he6
         have hcall := law15_proof_p 12 a4 c4 (List.replicate (Int.toNat (IntKind.i64.wrap (95 + (Int.tmod (IntKind.i64.wrap ((Int.tmod p0 3) + 3)) 3)))) 0 : List Int) a2 c2 (List.replicate (Int.toNat (IntKind.i64.wrap (95 + (Int.tmod (IntKind.i64.wrap ((Int.tmod p1 3) + 3)) 3)))) 0 : List Int) w6
         refine x_call 20 #[] #[] [Vi 12, .slice a4 ((List.replicate (Int.toNat (IntKind.i64.wrap (95 + (Int.tmod (IntKind.i64.wrap ((Int.tmod p0 3) + 3)) 3)))) 0 : List Int)).length c4, .slice a2 ((List.replicate (Int.toNat (IntKind.i64.wrap (95 + (Int.tmod (IntKind.i64.wrap ((Int.tmod p1 3) + 3)) 3)))) 0 : List Int)).length c2] _ rfl rfl rfl rfl hcall ?_
         rintro v w8 ⟨rfl, he8⟩
         clear hcall
         refine ⟨.inr he8, ?_⟩
         have hst := Stp.ext (ls := [[b6], blk a4, blk a2, []]) he8
         replace ho2 := ho2.step hst he8 nn2
         replace ho4 := ho4.step hst he8 nn2
         replace hb6 := he8.box hb6 nn
         replace hms := hms.ev he8
         replace hev := hev.ext he8
         obtain ⟨w9, hr9, hb9, he9⟩ := store_boxagg 0 [Vi 12, .slice a4 ((List.replicate (Int.toNat (IntKind.i64.wrap (95 + (Int.tmod (IntKind.i64.wrap ((Int.tmod p0 3) + 3)) 3)))) 0 : List Int)).length c4, .slice a2 ((List.replicate (Int.toNat (IntKind.i64.wrap (95 + (Int.tmod (IntKind.i64.wrap ((Int.tmod p1 3) + 3)) 3)))) 0 : List Int)).length c2] #[Vi 12, .slice a4 ((List.replicate (Int.toNat (IntKind.i64.wrap (95 + (Int.tmod (IntKind.i64.wrap ((Int.tmod p0 3) + 3)) 3)))) 0 : List Int)).length c4, .slice a2 ((List.replicate (Int.toNat (IntKind.i64.wrap (95 + (Int.tmod (IntKind.i64.wrap ((Int.tmod p1 3) + 3)) 3)))) 0 : List Int)).length c2] tagg29 hb6 rfl rfl rfl
         refine x_store w9 (xv := Vp b6 0) (yv := .agg #[Vi 12, .slice a4 ((List.replicate (Int.toNat (IntKind.i64.wrap (95 + (Int.tmod (IntKind.i64.wrap ((Int.tmod p0 3) + 3)) 3)))) 0 : List Int)).length c4, .slice a2 ((List.replicate (Int.toNat (IntKind.i64.wrap (95 + (Int.tmod (IntKind.i64.wrap ((Int.tmod p1 3) + 3)) 3)))) 0 : List Int)).length c2]) rfl rfl rfl rfl hr9 ?_
         refine inl1 ?_
         have hst := Stp.ev' (ls := [[b6], blk a4, blk a2, []]) he9 (mem_flat 0 rfl)
         replace ho2 := ho2.step hst he9 (hms.apart 2 0 rfl rfl rfl)
         replace ho4 := ho4.step hst he9 (hms.apart 1 0 rfl rfl rfl)
         replace hms := hms.ev he9
         replace hev := hev.then he9 (fun b hb => .inr (hfr.at 0 rfl b hb))
         replace hb6 := hb9
         refine x_end rfl ?_
         refine t_stop ?_
         have hpk : MS w9 [blk a4, blk a2, [b6], []] := hms.pick [some 1, some 2, some 0, some 3] _ rfl
         have hsu : ∀ x ∈ fl [blk a4, blk a2, [b6], []], x ∈ fl [[b6], blk a4, blk a2, []] := pick_sub [some 1, some 2, some 0, some 3] _ rfl
         replace ho4 := ho4.sub hsu
         replace ho2 := ho2.sub hsu
         replace hms := hpk
         replace hfr : FR w.heap.size [blk a4, blk a2, [b6]] := hfr.pick [some 1, some 2, some 0] _ rfl
         clear hpk hsu
         exact k_then ⟨(b6, a4, c4, a2, c2), ⟨rfl, rfl, rfl, trivial⟩, h, hev, hms, hfr, ho4, ho2, hb6⟩
       exact t_none
     refine t_alt _ rfl ?_ ?_
     · refine x_alloc (z := .agg #[Vi 0, .slice none 0 0, .slice none 0 0]) rfl rfl (by kernel_rfl) (fun b4 w4 hq4 hb4 he4 hz4 => ?_)
       replace hb4 : w4.heap[b4]? = some (.cells #[Vi 0, .slice none 0 0, .slice none 0 0] 29 (0, 0)) := hb4
       refine ⟨.inr he4, ?_⟩
       have hst := Stp.box (ls := [blk a2, []]) he4 hq4
       replace ho2 := ho2.step hst he4 nn2
       replace hms := hms.box he4 hq4 hb4
       replace hfr := hfr.box hev.size hq4
       replace hev := hev.ext he4
       have hg := guard_l h
       replace h := guard_r h
       obtain ⟨a6, c6, w6, hr6, he6, hn6, hw6⟩ := own_make (e := (eInt .i64)) tel22 w4 (IntKind.i64.wrap (95 + (Int.tmod (IntKind.i64.wrap ((Int.tmod p0 3) + 3)) 3))) hg.1 hg.2 0 (fun _ _ => rfl)
       refine x_makeSlice _ w6 (xv := Vi (IntKind.i64.wrap (95 + (Int.tmod (IntKind.i64.wrap ((Int.tmod p0 3) + 3)) 3)))) (yv := Vi (IntKind.i64.wrap (95 + (Int.tmod (IntKind.i64.wrap ((Int.tmod p0 3) + 3)) 3)))) rfl rfl rfl rfl hr6 ?_
       refine ⟨.inr he6, ?_⟩
       have hst := Stp.push (ls := [[b4], blk a2, []]) (l := blk a6) he6 (fun _ h => by cases h) (fun b hb => (hn6 b hb).1)
       replace ho2 := ho2.step hst he6 nn2
       replace hb4 := he6.box hb4 nn
       replace hms := hms.push he6 hn6
       replace hfr := hfr.push (fun b hb => Nat.le_trans hev.size (hn6 b hb).1)
       replace hev := hev.ext he6
       have ho6 := hw6 (fl [blk a6, [b4], blk a2, []])
       clear hw6
       have hcall := law15_proof_p 12 a6 c6 (List.replicate (Int.toNat (IntKind.i64.wrap (95 + (Int.tmod (IntKind.i64.wrap ((Int.tmod p0 3) + 3)) 3)))) 0 : List Int) a2 c2 (List.replicate (Int.toNat (IntKind.i64.wrap (95 + (Int.tmod (IntKind.i64.wrap ((Int.tmod p1 3) + 3)) 3)))) 0 : List Int) w6
       refine x_call 20 #[] #[] [Vi 12, .slice a6 ((List.replicate (Int.toNat (IntKind.i64.wrap (95 + (Int.tmod (IntKind.i64.wrap ((Int.tmod p0 3) + 3)) 3)))) 0 : List Int)).length c6, .slice a2 ((List.replicate (Int.toNat (IntKind.i64.wrap (95 + (Int.tmod (IntKind.i64.wrap ((Int.tmod p1 3) + 3)) 3)))) 0 : List Int)).length c2] _ rfl rfl rfl rfl hcall ?_
       rintro v w8 ⟨rfl, he8⟩
       clear hcall
       refine ⟨.inr he8, ?_⟩
       have hst := Stp.ext (ls := [blk a6, [b4], blk a2, []]) he8
       replace ho2 := ho2.step hst he8 nn2
       replace hb4 := he8.box hb4 nn
       replace ho6 := ho6.step hst he8 nn2
       replace hms := hms.ev he8
       replace hev := hev.ext he8
       obtain ⟨w9, hr9, hb9, he9⟩ := store_boxagg 0 [Vi 12, .slice a6 ((List.replicate (Int.toNat (IntKind.i64.wrap (95 + (Int.tmod (IntKind.i64.wrap ((Int.tmod p0 3) + 3)) 3)))) 0 : List Int)).length c6, .slice a2 ((List.replicate (Int.toNat (IntKind.i64.wrap (95 + (Int.tmod (IntKind.i64.wrap ((Int.tmod p1 3) + 3)) 3)))) 0 : List Int)).length c2] #[Vi 12, .slice a6 ((List.replicate (Int.toNat (IntKind.i64.wrap (95 + (Int.tmod (IntKind.i64.wrap ((Int.tmod p0 3) + 3)) 3)))) 0 : List Int)).length c6, .slice a2 ((List.replicate (Int.toNat (IntKind.i64.wrap (95 + (Int.tmod (IntKind.i64.wrap ((Int.tmod p1 3) + 3)) 3)))) 0 : List Int)).length c2] tagg29 hb4 rfl rfl rfl
       refine x_store w9 (xv := Vp b4 0) (yv := .agg #[Vi 12, .slice a6 ((List.replicate (Int.toNat (IntKind.i64.wrap (95 + (Int.tmod (IntKind.i64.wrap ((Int.tmod p0 3) + 3)) 3)))) 0 : List Int)).length c6, .slice a2 ((List.replicate (Int.toNat (IntKind.i64.wrap (95 + (Int.tmod (IntKind.i64.wrap ((Int.tmod p1 3) + 3)) 3)))) 0 : List Int)).length c2]) rfl rfl rfl rfl hr9 ?_
       refine inl1 ?_
       have hst := Stp.ev' (ls := [blk a6, [b4], blk a2, []]) he9 (mem_flat 1 rfl)
       replace ho2 := ho2.step hst he9 (hms.apart 2 1 rfl rfl rfl)
       replace ho6 := ho6.step hst he9 (hms.apart 0 1 rfl rfl rfl)
       replace hms := hms.ev he9
       replace hev := hev.then he9 (fun b hb => .inr (hfr.at 1 rfl b hb))
       replace hb4 := hb9
       refine x_end rfl ?_
       refine t_stop ?_
       have hpk : MS w9 [blk a6, blk a2, [b4], []] := hms.pick [some 0, some 2, some 1, some 3] _ rfl
       have hsu : ∀ x ∈ fl [blk a6, blk a2, [b4], []], x ∈ fl [blk a6, [b4], blk a2, []] := pick_sub [some 0, some 2, some 1, some 3] _ rfl
       replace ho6 := ho6.sub hsu
       replace ho2 := ho2.sub hsu
       replace hms := hpk
       replace hfr : FR w.heap.size [blk a6, blk a2, [b4]] := hfr.pick [some 0, some 2, some 1] _ rfl
       clear hpk hsu
       exact k_then ⟨(b4, a6, c6, a2, c2), ⟨rfl, rfl, rfl, trivial⟩, h, hev, hms, hfr, ho6, ho2, hb4⟩
     exact t_none
   refine t_alt _ rfl ?_ ?_
   · refine x_alloc (z := .agg #[Vi 0, .slice none 0 0, .slice none 0 0]) rfl rfl (by kernel_rfl) (fun b2 w2 hq2 hb2 he2 hz2 => ?_)
     replace hb2 : w2.heap[b2]? = some (.cells #[Vi 0, .slice none 0 0, .slice none 0 0] 29 (0, 0)) := hb2
     refine ⟨.inr he2, ?_⟩
     replace hms := hms.box he2 hq2 hb2
     replace hfr := hfr.box hev.size hq2
     replace hev := hev.ext he2
     refine x_end rfl ?_
     refine t_alt _ rfl ?_ ?_
     · have hg := guard_l h
       replace h := guard_r h
       obtain ⟨a4, c4, w4, hr4, he4, hn4, hw4⟩ := own_make (e := (eInt .i64)) tel22 w2 (IntKind.i64.wrap (95 + (Int.tmod (IntKind.i64.wrap ((Int.tmod p0 3) + 3)) 3))) hg.1 hg.2 0 (fun _ _ => rfl)
       refine x_makeSlice _ w4 (xv := Vi (IntKind.i64.wrap (95 + (Int.tmod (IntKind.i64.wrap ((Int.tmod p0 3) + 3)) 3)))) (yv := Vi (IntKind.i64.wrap (95 + (Int.tmod (IntKind.i64.wrap ((Int.tmod p0 3) + 3)) 3)))) rfl rfl rfl rfl hr4 ?_
       refine ⟨.inr he4, ?_⟩
       replace hb2 := he4.box hb2 nn
       replace hms := hms.push he4 hn4
       replace hfr := hfr.push (fun b hb => Nat.le_trans hev.size (hn4 b hb).1)
       replace hev := hev.ext he4
       have ho4 := hw4 (fl [blk a4, [b2], []])
       clear hw4
       have hg := guard_l h
       replace h := guard_r h
       obtain ⟨a6, c6, w6, hr6, he6, hn6, hw6⟩ := own_make (e := (eInt .i64)) tel22 w4 (IntKind.i64.wrap (95 + (Int.tmod (IntKind.i64.wrap ((Int.tmod p1 3) + 3)) 3))) hg.1 hg.2 0 (fun _ _ => rfl)
       refine x_makeSlice _ w6 (xv := Vi (IntKind.i64.wrap (95 + (Int.tmod (IntKind.i64.wrap ((Int.tmod p1 3) + 3)) 3)))) (yv := Vi (IntKind.i64.wrap (95 + (Int.tmod (IntKind.i64.wrap ((Int.tmod p1 3) + 3)) 3)))) rfl rfl rfl rfl hr6 ?_
       refine ⟨.inr he6, ?_⟩
       have hst := Stp.push (ls := [blk a4, [b2], []]) (l := blk a6) he6 (fun _ h => by cases h) (fun b hb => (hn6 b hb).1)
       replace hb2 := he6.box hb2 nn
       replace ho4 := ho4.step hst he6 nn2
       replace hms := hms.push he6 hn6
       replace hfr := hfr.push (fun b hb => Nat.le_trans hev.size (hn6 b hb).1)
       replace hev := hev.ext he6
       have ho6 := hw6 (fl [blk a6, blk a4, [b2], []])
       clear hw6
       have hcall := law15_proof_p 12 a4 c4 (List.replicate (Int.toNat (IntKind.i64.wrap (95 + (Int.tmod (IntKind.i64.wrap ((Int.tmod p0 3) + 3)) 3)))) 0 : List Int) a6 c6 (List.replicate (Int.toNat (IntKind.i64.wrap (95 + (Int.tmod (IntKind.i64.wrap ((Int.tmod p1 3) + 3)) 3)))) 0 : List Int) w6
       refine x_call 20 #[] #[] [Vi 12, .slice a4 ((List.replicate (Int.toNat (IntKind.i64.wrap (95 + (Int.tmod (IntKind.i64.wrap ((Int.tmod p0 3) + 3)) 3)))) 0 : List Int)).length c4, .slice a6 ((List.replicate (Int.toNat (IntKind.i64.wrap (95 + (Int.tmod (IntKind.i64.wrap ((Int.tmod p1 3) + 3)) 3)))) 0 : List Int)).length c6] _ rfl rfl rfl rfl hcall ?_
       rintro v w8 ⟨rfl, he8⟩
       clear hcall
       refine ⟨.inr he8, ?_⟩
       have hst := Stp.ext (ls := [blk a6, blk a4, [b2], []]) he8
       replace hb2 := he8.box hb2 nn
       replace ho4 := ho4.step hst he8 nn2
       replace ho6 := ho6.step hst he8 nn2
       replace hms := hms.ev he8
       replace hev := hev.ext he8
       obtain ⟨w9, hr9, hb9, he9⟩ := store_boxagg 0 [Vi 12, .slice a4 ((List.replicate (Int.toNat (IntKind.i64.wrap (95 + (Int.tmod (IntKind.i64.wrap ((Int.tmod p0 3) + 3)) 3)))) 0 : List Int)).length c4, .slice a6 ((List.replicate (Int.toNat (IntKind.i64.wrap (95 + (Int.tmod (IntKind.i64.wrap ((Int.tmod p1 3) + 3)) 3)))) 0 : List Int)).length c6] #[Vi 12, .slice a4 ((List.replicate (Int.toNat (IntKind.i64.wrap (95 + (Int.tmod (IntKind.i64.wrap ((Int.tmod p0 3) + 3)) 3)))) 0 : List Int)).length c4, .slice a6 ((List.replicate (Int.toNat (IntKind.i64.wrap (95 + (Int.tmod (IntKind.i64.wrap ((Int.tmod p1 3) + 3)) 3)))) 0 : List Int)).length c6] tagg29 hb2 rfl rfl rfl
       refine x_store w9 (xv := Vp b2 0) (yv := .agg #[Vi 12, .slice a4 ((List.replicate (Int.toNat (IntKind.i64.wrap (95 + (Int.tmod (IntKind.i64.wrap ((Int.tmod p0 3) + 3)) 3)))) 0 : List Int)).length c4, .slice a6 ((List.replicate (Int.toNat (IntKind.i64.wrap (95 + (Int.tmod (IntKind.i64.wrap ((Int.tmod p1 3) + 3)) 3)))) 0 : List Int)).length c6]) rfl rfl rfl rfl hr9 ?_
       refine inl1 ?_
       have hst := Stp.ev' (ls := [blk a6, blk a4, [b2], []]) he9 (mem_flat 2 rfl)
       replace ho4 := ho4.step hst he9 (hms.apart 1 2 rfl rfl rfl)
       replace ho6 := ho6.step hst he9 (hms.apart 0 2 rfl rfl rfl)
       replace hms := hms.ev he9
       replace hev := hev.then he9 (fun b hb => .inr (hfr.at 2 rfl b hb))
       replace hb2 := hb9
       refine x_end rfl ?_
       refine t_stop ?_
       have hpk : MS w9 [blk a4, blk a6, [b2], []] := hms.pick [some 1, some 0, some 2, some 3] _ rfl
       have hsu : ∀ x ∈ fl [blk a4, blk a6, [b2], []], x ∈ fl [blk a6, blk a4, [b2], []] := pick_sub [some 1, some 0, some 2, some 3] _ rfl
       replace ho4 := ho4.sub hsu
       replace ho6 := ho6.sub hsu
       replace hms := hpk
       replace hfr : FR w.heap.size [blk a4, blk a6, [b2]] := hfr.pick [some 1, some 0, some 2] _ rfl
       clear hpk hsu
       exact k_then ⟨(b2, a4, c4, a6, c6), ⟨rfl, rfl, rfl, trivial⟩, h, hev, hms, hfr, ho4, ho6, hb2⟩
     refine t_alt _ rfl ?_ ?_
     · have hpg0 := guard_l h
       replace h := guard_r h
       have hpg1 := guard_l h
       replace h := guard_r h
       replace h : (if (0 : Int) ≤ IntKind.i64.wrap (95 + (Int.tmod (IntKind.i64.wrap ((Int.tmod p1 3) + 3)) 3)) ∧ (IntKind.i64.wrap (95 + (Int.tmod (IntKind.i64.wrap ((Int.tmod p1 3) + 3)) 3)) : Int) ≤ 4294967296 then
(if (0 : Int) ≤ IntKind.i64.wrap (95 + (Int.tmod (IntKind.i64.wrap ((Int.tmod p0 3) + 3)) 3)) ∧ (IntKind.i64.wrap (95 + (Int.tmod (IntKind.i64.wrap ((Int.tmod p0 3) + 3)) 3)) : Int) ≤ 4294967296 then
law15_CertificateLimits_J1 p0 p1
else none)
else none) = _ := (guard_i hpg1 (guard_i hpg0 h))
       clear hpg0 hpg1
       have hg := guard_l h
       replace h := guard_r h
       obtain ⟨a4, c4, w4, hr4, he4, hn4, hw4⟩ := own_make (e := (eInt .i64)) tel22 w2 (IntKind.i64.wrap (95 + (Int.tmod (IntKind.i64.wrap ((Int.tmod p1 3) + 3)) 3))) hg.1 hg.2 0 (fun _ _ => rfl)
       refine x_makeSlice _ w4 (xv := Vi (IntKind.i64.wrap (95 + (Int.tmod (IntKind.i64.wrap ((Int.tmod p1 3) + 3)) 3)))) (yv := Vi (IntKind.i64.wrap (95 + (Int.tmod (IntKind.i64.wrap ((Int.tmod p1 3) + 3)) 3)))) rfl rfl rfl rfl hr4 ?_
       refine ⟨.inr he4, ?_⟩
       replace hb2 := he4.box hb2 nn
       replace hms := hms.push he4 hn4
       replace hfr := hfr.push (fun b hb => Nat.le_trans hev.size (hn4 b hb).1)
       replace hev := hev.ext he4
       have ho4 := hw4 (fl [blk a4, [b2], []])
       clear hw4
       have hg := guard_l h
       replace h := guard_r h
       obtain ⟨a6, c6, w6, hr6, he6, hn6, hw6⟩ := own_make (e := (eInt .i64)) tel22 w4 (IntKind.i64.wrap (95 + (Int.tmod (IntKind.i64.wrap ((Int.tmod p0 3) + 3)) 3))) hg.1 hg.2 0 (fun _ _ => rfl)
       refine x_makeSlice _ w6 (xv := Vi (IntKind.i64.wrap (95 + (Int.tmod (IntKind.i64.wrap ((Int.tmod p0 3) + 3)) 3)))) (yv := Vi (IntKind.i64.wrap (95 + (Int.tmod (IntKind.i64.wrap ((Int.tmod p0 3) + 3)) 3)))) rfl rfl rfl rfl hr6 ?_
       refine ⟨.inr he6, ?_⟩
       have hst := Stp.push (ls := [blk a4, [b2], []]) (l := blk a6) he6 (fun _ h => by cases h) (fun b hb => (hn6 b hb).1)
       replace hb2 := he6.box hb2 nn
       replace ho4 := ho4.step hst he6 nn2
       replace hms := hms.push he6 hn6
       replace hfr := hfr.push (fun b hb => Nat.le_trans hev.size (hn6 b hb).1)
       replace hev := hev.ext he6
       have ho6 := hw6 (fl [blk a6, blk a4, [b2], []])
       clear hw6
       have hcall := law15_proof_p 12 a6 c6 (List.replicate (Int.toNat (IntKind.i64.wrap (95 + (Int.tmod (IntKind.i64.wrap ((Int.tmod p0 3) + 3)) 3)))) 0 : List Int) a4 c4 (List.replicate (Int.toNat (IntKind.i64.wrap (95 + (Int.tmod (IntKind.i64.wrap ((Int.tmod p1 3) + 3)) 3)))) 0 : List Int) w6
       refine x_call 20 #[] #[] [Vi 12, .slice a6 ((List.replicate (Int.toNat (IntKind.i64.wrap (95 + (Int.tmod (IntKind.i64.wrap ((Int.tmod p0 3) + 3)) 3)))) 0 : List Int)).length c6, .slice a4 ((List.replicate (Int.toNat (IntKind.i64.wrap (95 + (Int.tmod (IntKind.i64.wrap ((Int.tmod p1 3) + 3)) 3)))) 0 : List Int)).length c4] _ rfl rfl rfl rfl hcall ?_
       rintro v w8 ⟨rfl, he8⟩
       clear hcall
       refine ⟨.inr he8, ?_⟩
       have hst := Stp.ext (ls := [blk a6, blk a4, [b2], []]) he8
       replace hb2 := he8.box hb2 nn
       replace ho4 := ho4.step hst he8 nn2
       replace ho6 := ho6.step hst he8 nn2
       replace hms := hms.ev he8
       replace hev := hev.ext he8
       obtain ⟨w9, hr9, hb9, he9⟩ := store_boxagg 0 [Vi 12, .slice a6 ((List.replicate (Int.toNat (IntKind.i64.wrap (95 + (Int.tmod (IntKind.i64.wrap ((Int.tmod p0 3) + 3)) 3)))) 0 : List Int)).length c6, .slice a4 ((List.replicate (Int.toNat (IntKind.i64.wrap (95 + (Int.tmod (IntKind.i64.wrap ((Int.tmod p1 3) + 3)) 3)))) 0 : List Int)).length c4] #[Vi 12, .slice a6 ((List.replicate (Int.toNat (IntKind.i64.wrap (95 + (Int.tmod (IntKind.i64.wrap ((Int.tmod p0 3) + 3)) 3)))) 0 : List Int)).length c6, .slice a4 ((List.replicate (Int.toNat (IntKind.i64.wrap (95 + (Int.tmod (IntKind.i64.wrap ((Int.tmod p1 3) + 3)) 3)))) 0 : List Int)).length c4] tagg29 hb2 rfl rfl rfl
       refine x_store w9 (xv := Vp b2 0) (yv := .agg #[Vi 12, .slice a6 ((List.replicate (Int.toNat (IntKind.i64.wrap (95 + (Int.tmod (IntKind.i64.wrap ((Int.tmod p0 3) + 3)) 3)))) 0 : List Int)).length c6, .slice a4 ((List.replicate (Int.toNat (IntKind.i64.wrap (95 + (Int.tmod (IntKind.i64.wrap ((Int.tmod p1 3) + 3)) 3)))) 0 : List Int)).length c4]) rfl rfl rfl rfl hr9 ?_
       refine inl1 ?_
       have hst := Stp.ev' (ls := [blk a6, blk a4, [b2], []]) he9 (mem_flat 2 rfl)
       replace ho4 := ho4.step hst he9 (hms.apart 1 2 rfl rfl rfl)
       replace ho6 := ho6.step hst he9 (hms.apart 0 2 rfl rfl rfl)
       replace hms := hms.ev he9
       replace hev := hev.then he9 (fun b hb => .inr (hfr.at 2 rfl b hb))
       replace hb2 := hb9
       refine x_end rfl ?_
       refine t_stop ?_
       exact k_then ⟨(b2, a6, c6, a4, c4), ⟨rfl, rfl, rfl, trivial⟩, h, hev, hms, hfr, ho6, ho4, hb2⟩
     exact t_none
   exact t_none
 rintro ⟨b8_j1, a3_j1, c3_j1, a5_j1, c5_j1⟩ J wj1 ⟨h, hev, hms, hfr, hj3_j1, hj5_j1, hb8_j1⟩
 refine c_seq ?_
 refine c_sp ?_
 refine x_fieldAddr (xv := Vp b8_j1 0) (Vp b8_j1 0) rfl rfl rfl (reads_field tfld29_0 _ _) ?_
 refine x_fieldAddr (xv := Vp b8_j1 0) (Vp b8_j1 1) rfl rfl rfl (reads_field tfld27_1 _ _) ?_
 refine x_load (xv := Vp b8_j1 1) (.slice a3_j1 ((List.replicate (Int.toNat (IntKind.i64.wrap (95 + (Int.tmod (IntKind.i64.wrap ((Int.tmod p0 3) + 3)) 3)))) 0 : List Int)).length c3_j1) rfl rfl rfl (reads_box tcell22 hb8_j1 nn 1 _ rfl) ?_
 refine x_len (vs := [.slice a3_j1 ((List.replicate (Int.toNat (IntKind.i64.wrap (95 + (Int.tmod (IntKind.i64.wrap ((Int.tmod p0 3) + 3)) 3)))) 0 : List Int)).length c3_j1]) (Vi (((List.replicate (Int.toNat (IntKind.i64.wrap (95 + (Int.tmod (IntKind.i64.wrap ((Int.tmod p0 3) + 3)) 3)))) 0 : List Int)).length : Int)) rfl rfl rfl (reads_len tsl22 _ _ _ _ _) ?_
 refine x_u 1 [(33, Vi 0)] ?_
 refine x_ek ?_
 refine c_norm [(0, Vi (IntKind.i64.wrap (95 + (Int.tmod (IntKind.i64.wrap ((Int.tmod p0 3) + 3)) 3)))), (1, Vi (IntKind.i64.wrap (95 + (Int.tmod (IntKind.i64.wrap ((Int.tmod p1 3) + 3)) 3)))), (5, Vp b8_j1 0), (32, Vi (((List.replicate (Int.toNat (IntKind.i64.wrap (95 + (Int.tmod (IntKind.i64.wrap ((Int.tmod p0 3) + 3)) 3)))) 0 : List Int)).length : Int)), (33, Vi 0)] ⟨rfl, rfl, rfl, rfl, rfl, trivial⟩ (fun J => ?_)
 refine c_block ?_
 obtain ⟨d3, hd3, h3⟩ := bind_some h
 obtain ⟨m3, hd3⟩ := loop_some hd3
 refine c_loop (loop_rule hmx (σ := Nat × (List Int) × Int) (fun s => match s with | (_, d3_l3, t33__s33_l3) => [(0, Vi (IntKind.i64.wrap (95 + (Int.tmod (IntKind.i64.wrap ((Int.tmod p0 3) + 3)) 3)))), (1, Vi (IntKind.i64.wrap (95 + (Int.tmod (IntKind.i64.wrap ((Int.tmod p1 3) + 3)) 3)))), (5, Vp b8_j1 0), (32, Vi (((List.replicate (Int.toNat (IntKind.i64.wrap (95 + (Int.tmod (IntKind.i64.wrap ((Int.tmod p0 3) + 3)) 3)))) 0 : List Int)).length : Int)), (33, Vi t33__s33_l3)]) (fun s w' => match s with | (m, d3_l3, t33__s33_l3) => loopN (law15_CertificateLimits_L3 p0) m (d3_l3, t33__s33_l3) = some d3 ∧ Ev [] w w' ∧ MS w' [blk a3_j1, blk a5_j1, [b8_j1], []] ∧ FR w.heap.size [blk a3_j1, blk a5_j1, [b8_j1]] ∧ OwnS (eInt .i64) 3 w' (fl [blk a3_j1, blk a5_j1, [b8_j1], []]) a3_j1 c3_j1 d3_l3 ∧ OwnS (eInt .i64) 3 w' (fl [blk a3_j1, blk a5_j1, [b8_j1], []]) a5_j1 c5_j1 (List.replicate (Int.toNat (IntKind.i64.wrap (95 + (Int.tmod (IntKind.i64.wrap ((Int.tmod p1 3) + 3)) 3)))) 0 : List Int) ∧ w'.heap[b8_j1]? = some (.cells #[Vi 12, .slice a3_j1 (d3_l3).length c3_j1, .slice a5_j1 ((List.replicate (Int.toNat (IntKind.i64.wrap (95 + (Int.tmod (IntKind.i64.wrap ((Int.tmod p1 3) + 3)) 3)))) 0 : List Int)).length c5_j1] 29 (0, 0))) (fun s => s.1) (m3, (List.replicate (Int.toNat (IntKind.i64.wrap (95 + (Int.tmod (IntKind.i64.wrap ((Int.tmod p0 3) + 3)) 3)))) 0 : List Int), 0) ⟨rfl, rfl, rfl, rfl, rfl, trivial⟩ ⟨hd3, hev, hms, hfr, hj3_j1, hj5_j1, hb8_j1⟩ ?_)
 rintro ⟨m3, d3_l3, t33__s33_l3⟩ J wl3 ⟨hn3, hev, hms, hfr, hj3_j1, hj5_j1, hb8_j1⟩
 rcases m3 with _ | m3
 · exact (loopN_zero hn3).elim
 obtain ⟨t3, h, hn3⟩ := bind_some hn3
 refine c_sp ?_
 refine x_u 1 [(34, .bool (decide (t33__s33_l3 < (((List.replicate (Int.toNat (IntKind.i64.wrap (95 + (Int.tmod (IntKind.i64.wrap ((Int.tmod p0 3) + 3)) 3)))) 0 : List Int)).length : Int))))] ?_
 refine x_ek ?_
 refine c_norm [(0, Vi (IntKind.i64.wrap (95 + (Int.tmod (IntKind.i64.wrap ((Int.tmod p0 3) + 3)) 3)))), (1, Vi (IntKind.i64.wrap (95 + (Int.tmod (IntKind.i64.wrap ((Int.tmod p1 3) + 3)) 3)))), (5, Vp b8_j1 0), (32, Vi (((List.replicate (Int.toNat (IntKind.i64.wrap (95 + (Int.tmod (IntKind.i64.wrap ((Int.tmod p0 3) + 3)) 3)))) 0 : List Int)).length : Int)), (33, Vi t33__s33_l3), (34, .bool (decide (t33__s33_l3 < (((List.replicate (Int.toNat (IntKind.i64.wrap (95 + (Int.tmod (IntKind.i64.wrap ((Int.tmod p0 3) + 3)) 3)))) 0 : List Int)).length : Int))))] ⟨rfl, rfl, rfl, rfl, rfl, rfl, trivial⟩ (fun J => ?_)
 refine c_seq ?_
 refine c_if (decide (t33__s33_l3 < (((List.replicate (Int.toNat (IntKind.i64.wrap (95 + (Int.tmod (IntKind.i64.wrap ((Int.tmod p0 3) + 3)) 3)))) 0 : List Int)).length : Int))) rfl h (fun h => ?_) (fun h => ?_)
 · refine c_skip ?_
   refine k_then ?_
   refine c_seq ?_
   refine c_block ?_
   refine c_sp ?_
   refine x_u 2 [(35, Vi t33__s33_l3), (6, Vi t33__s33_l3)] ?_
   refine x_ek ?_
   refine c_plain ?_
   refine x_fieldAddr (xv := Vp b8_j1 0) (Vp b8_j1 0) rfl rfl rfl (reads_field tfld29_0 _ _) ?_
   refine x_fieldAddr (xv := Vp b8_j1 0) (Vp b8_j1 1) rfl rfl rfl (reads_field tfld27_1 _ _) ?_
   refine x_load (xv := Vp b8_j1 1) (.slice a3_j1 (d3_l3).length c3_j1) rfl rfl rfl (reads_box tcell22 hb8_j1 nn 1 _ rfl) ?_
   refine x_u 3 [(39, Vi t33__s33_l3), (40, Vi t33__s33_l3), (41, Vi (IntKind.i64.wrap (4095 - t33__s33_l3)))] ?_
   obtain ⟨x5, hx5, h⟩ := bind_some h
   obtain ⟨g5, cs5, ha5, hr5, hc5, hR⟩ := own_index (Mo := []) tsl22 hj3_j1 hx5
   obtain rfl := hR
   refine x_indexAddr (xv := .slice a3_j1 (d3_l3).length c3_j1) (yv := Vi t33__s33_l3) (.pointer (some ⟨g5, (Int.toNat t33__s33_l3) * (eInt .i64).n, none⟩)) rfl rfl rfl rfl hr5 ?_
   obtain ⟨w7, hr7, he7, ho7⟩ := own_storeE ha5 (y := IntKind.i64.wrap (4095 - t33__s33_l3)) 0 (Vi (IntKind.i64.wrap (4095 - t33__s33_l3))) tcell3 hj3_j1 (mem_flat 0 rfl) hx5 rfl rfl (fun _ _ _ hR => set_int hR)
   refine x_store w7 (xv := .pointer (some ⟨g5, (Int.toNat t33__s33_l3) * (eInt .i64).n, none⟩)) (yv := Vi (IntKind.i64.wrap (4095 - t33__s33_l3))) rfl rfl rfl rfl hr7 ?_
   refine inl1 ?_
   have hst := Stp.ev' (ls := [blk a3_j1, blk a5_j1, [b8_j1], []]) he7 (mem_flat 0 rfl)
   replace hb8_j1 := he7.box hb8_j1 (hms.apart 2 0 rfl rfl rfl _ mem1)
   replace hj5_j1 := hj5_j1.step hst he7 (hms.apart 1 0 rfl rfl rfl)
   replace hms := hms.ev he7
   replace hev := hev.then he7 (fun b hb => .inr (hfr.at 0 rfl b hb))
   replace hj3_j1 := ho7
   have hsl : (Value.slice a3_j1 (d3_l3).length c3_j1) = (Value.slice a3_j1 ((d3_l3.set (Int.toNat t33__s33_l3) (IntKind.i64.wrap (4095 - t33__s33_l3)))).length c3_j1) := by first | (rw [List.length_set]; done) | simp only [List.length_set]
   rw [hsl] at hb8_j1
   try rw [hsl]
   clear hsl
   refine x_end rfl ?_
   refine k_block ?_
   refine k_then ?_
   refine c_plain ?_
   refine x_u 2 [(43, Vi (IntKind.i64.wrap (t33__s33_l3 + 1))), (33, Vi (IntKind.i64.wrap (t33__s33_l3 + 1)))] ?_
   refine x_end rfl ?_
   have hx := some_inj h
   subst hx
   exact k_then ⟨(m3, (d3_l3.set (Int.toNat t33__s33_l3) (IntKind.i64.wrap (4095 - t33__s33_l3))), IntKind.i64.wrap (t33__s33_l3 + 1)), ⟨rfl, rfl, rfl, rfl, rfl, trivial⟩, ⟨hn3, hev, hms, hfr, hj3_j1, hj5_j1, hb8_j1⟩, Nat.lt_succ_self _⟩
 refine c_exit ?_
 refine k_then_exit ?_
 have hx := some_inj h
 subst hx
 have hy := some_inj hn3
 subst hy
 replace h := h3
 refine k_then_exit ?_
 refine k_block_in ?_
 refine k_then ?_
 refine c_norm [(0, Vi (IntKind.i64.wrap (95 + (Int.tmod (IntKind.i64.wrap ((Int.tmod p0 3) + 3)) 3)))), (1, Vi (IntKind.i64.wrap (95 + (Int.tmod (IntKind.i64.wrap ((Int.tmod p1 3) + 3)) 3)))), (5, Vp b8_j1 0)] ⟨rfl, rfl, rfl, trivial⟩ (fun J => ?_)
 refine c_seq ?_
 refine c_sp ?_
 refine x_fieldAddr (xv := Vp b8_j1 0) (Vp b8_j1 2) rfl rfl rfl (reads_field tfld29_1 _ _) ?_
 refine x_load (xv := Vp b8_j1 2) (.slice a5_j1 ((List.replicate (Int.toNat (IntKind.i64.wrap (95 + (Int.tmod (IntKind.i64.wrap ((Int.tmod p1 3) + 3)) 3)))) 0 : List Int)).length c5_j1) rfl rfl rfl (reads_box tcell22 hb8_j1 nn 2 _ rfl) ?_
 refine x_len (vs := [.slice a5_j1 ((List.replicate (Int.toNat (IntKind.i64.wrap (95 + (Int.tmod (IntKind.i64.wrap ((Int.tmod p1 3) + 3)) 3)))) 0 : List Int)).length c5_j1]) (Vi (((List.replicate (Int.toNat (IntKind.i64.wrap (95 + (Int.tmod (IntKind.i64.wrap ((Int.tmod p1 3) + 3)) 3)))) 0 : List Int)).length : Int)) rfl rfl rfl (reads_len tsl22 _ _ _ _ _) ?_
 refine x_u 1 [(47, Vi 0)] ?_
 refine x_ek ?_
 refine c_block ?_
 obtain ⟨d9, hd9, h9⟩ := bind_some h
 obtain ⟨m9, hd9⟩ := loop_some hd9
 refine c_loop (loop_rule hmx (σ := Nat × (List Int) × Int) (fun s => match s with | (_, d5_l9, t47__s47_l9) => [(0, Vi (IntKind.i64.wrap (95 + (Int.tmod (IntKind.i64.wrap ((Int.tmod p0 3) + 3)) 3)))), (1, Vi (IntKind.i64.wrap (95 + (Int.tmod (IntKind.i64.wrap ((Int.tmod p1 3) + 3)) 3)))), (5, Vp b8_j1 0), (46, Vi (((List.replicate (Int.toNat (IntKind.i64.wrap (95 + (Int.tmod (IntKind.i64.wrap ((Int.tmod p1 3) + 3)) 3)))) 0 : List Int)).length : Int)), (47, Vi t47__s47_l9)]) (fun s w' => match s with | (m, d5_l9, t47__s47_l9) => loopN (law15_CertificateLimits_L9 p1) m (d5_l9, t47__s47_l9) = some d9 ∧ Ev [] w w' ∧ MS w' [blk a3_j1, blk a5_j1, [b8_j1], []] ∧ FR w.heap.size [blk a3_j1, blk a5_j1, [b8_j1]] ∧ OwnS (eInt .i64) 3 w' (fl [blk a3_j1, blk a5_j1, [b8_j1], []]) a3_j1 c3_j1 d3_l3 ∧ OwnS (eInt .i64) 3 w' (fl [blk a3_j1, blk a5_j1, [b8_j1], []]) a5_j1 c5_j1 d5_l9 ∧ w'.heap[b8_j1]? = some (.cells #[Vi 12, .slice a3_j1 (d3_l3).length c3_j1, .slice a5_j1 (d5_l9).length c5_j1] 29 (0, 0))) (fun s => s.1) (m9, (List.replicate (Int.toNat (IntKind.i64.wrap (95 + (Int.tmod (IntKind.i64.wrap ((Int.tmod p1 3) + 3)) 3)))) 0 : List Int), 0) ⟨rfl, rfl, rfl, rfl, rfl, trivial⟩ ⟨hd9, hev, hms, hfr, hj3_j1, hj5_j1, hb8_j1⟩ ?_)
 rintro ⟨m9, d5_l9, t47__s47_l9⟩ J wl9 ⟨hn9, hev, hms, hfr, hj3_j1, hj5_j1, hb8_j1⟩
 rcases m9 with _ | m9
 · exact (loopN_zero hn9).elim
 obtain ⟨t9, h, hn9⟩ := bind_some hn9
 refine c_sp ?_
 refine x_u 1 [(48, .bool (decide (t47__s47_l9 < (((List.replicate (Int.toNat (IntKind.i64.wrap (95 + (Int.tmod (IntKind.i64.wrap ((Int.tmod p1 3) + 3)) 3)))) 0 : List Int)).length : Int))))] ?_
 refine x_ek ?_
 refine c_norm [(0, Vi (IntKind.i64.wrap (95 + (Int.tmod (IntKind.i64.wrap ((Int.tmod p0 3) + 3)) 3)))), (1, Vi (IntKind.i64.wrap (95 + (Int.tmod (IntKind.i64.wrap ((Int.tmod p1 3) + 3)) 3)))), (5, Vp b8_j1 0), (46, Vi (((List.replicate (Int.toNat (IntKind.i64.wrap (95 + (Int.tmod (IntKind.i64.wrap ((Int.tmod p1 3) + 3)) 3)))) 0 : List Int)).length : Int)), (47, Vi t47__s47_l9), (48, .bool (decide (t47__s47_l9 < (((List.replicate (Int.toNat (IntKind.i64.wrap (95 + (Int.tmod (IntKind.i64.wrap ((Int.tmod p1 3) + 3)) 3)))) 0 : List Int)).length : Int))))] ⟨rfl, rfl, rfl, rfl, rfl, rfl, trivial⟩ (fun J => ?_)
 refine c_seq ?_
 refine c_if (decide (t47__s47_l9 < (((List.replicate (Int.toNat (IntKind.i64.wrap (95 + (Int.tmod (IntKind.i64.wrap ((Int.tmod p1 3) + 3)) 3)))) 0 : List Int)).length : Int))) rfl h (fun h => ?_) (fun h => ?_)
 · refine c_skip ?_
   refine k_then ?_
   refine c_seq ?_
   refine c_block ?_
   refine c_sp ?_
   refine x_u 2 [(49, Vi t47__s47_l9), (7, Vi t47__s47_l9)] ?_
   refine x_ek ?_
   refine c_plain ?_
   refine x_fieldAddr (xv := Vp b8_j1 0) (Vp b8_j1 2) rfl rfl rfl (reads_field tfld29_1 _ _) ?_
   refine x_load (xv := Vp b8_j1 2) (.slice a5_j1 (d5_l9).length c5_j1) rfl rfl rfl (reads_box tcell22 hb8_j1 nn 2 _ rfl) ?_
   refine x_u 3 [(52, Vi t47__s47_l9), (53, Vi t47__s47_l9), (54, Vi (Int.tmod t47__s47_l9 96))] ?_
   obtain ⟨x10, hx10, h⟩ := bind_some h
   obtain ⟨g10, cs10, ha10, hr10, hc10, hR⟩ := own_index (Mo := []) tsl22 hj5_j1 hx10
   obtain rfl := hR
   refine x_indexAddr (xv := .slice a5_j1 (d5_l9).length c5_j1) (yv := Vi t47__s47_l9) (.pointer (some ⟨g10, (Int.toNat t47__s47_l9) * (eInt .i64).n, none⟩)) rfl rfl rfl rfl hr10 ?_
   obtain ⟨w12, hr12, he12, ho12⟩ := own_storeE ha10 (y := Int.tmod t47__s47_l9 96) 0 (Vi (Int.tmod t47__s47_l9 96)) tcell3 hj5_j1 (mem_flat 1 rfl) hx10 rfl rfl (fun _ _ _ hR => set_int hR)
   refine x_store w12 (xv := .pointer (some ⟨g10, (Int.toNat t47__s47_l9) * (eInt .i64).n, none⟩)) (yv := Vi (Int.tmod t47__s47_l9 96)) rfl rfl rfl rfl hr12 ?_
   refine inl1 ?_
   have hst := Stp.ev' (ls := [blk a3_j1, blk a5_j1, [b8_j1], []]) he12 (mem_flat 1 rfl)
   replace hb8_j1 := he12.box hb8_j1 (hms.apart 2 1 rfl rfl rfl _ mem1)
   replace hj3_j1 := hj3_j1.step hst he12 (hms.apart 0 1 rfl rfl rfl)
   replace hms := hms.ev he12
   replace hev := hev.then he12 (fun b hb => .inr (hfr.at 1 rfl b hb))
   replace hj5_j1 := ho12
   have hsl : (Value.slice a5_j1 (d5_l9).length c5_j1) = (Value.slice a5_j1 ((d5_l9.set (Int.toNat t47__s47_l9) (Int.tmod t47__s47_l9 96))).length c5_j1) := by first | (rw [List.length_set]; done) | simp only [List.length_set]
   rw [hsl] at hb8_j1
   try rw [hsl]
   clear hsl
   refine x_end rfl ?_
   refine k_block ?_
   refine k_then ?_
   refine c_plain ?_
   refine x_u 2 [(56, Vi (IntKind.i64.wrap (t47__s47_l9 + 1))), (47, Vi (IntKind.i64.wrap (t47__s47_l9 + 1)))] ?_
   refine x_end rfl ?_
   have hx := some_inj h
   subst hx
   exact k_then ⟨(m9, (d5_l9.set (Int.toNat t47__s47_l9) (Int.tmod t47__s47_l9 96)), IntKind.i64.wrap (t47__s47_l9 + 1)), ⟨rfl, rfl, rfl, rfl, rfl, trivial⟩, ⟨hn9, hev, hms, hfr, hj3_j1, hj5_j1, hb8_j1⟩, Nat.lt_succ_self _⟩
 refine c_exit ?_
 refine k_then_exit ?_
 have hx := some_inj h
 subst hx
 have hy := some_inj hn9
 subst hy
 replace h := h9
 refine k_then_exit ?_
 refine k_block_in ?_
 refine k_then ?_
 refine c_norm [(0, Vi (IntKind.i64.wrap (95 + (Int.tmod (IntKind.i64.wrap ((Int.tmod p0 3) + 3)) 3)))), (1, Vi (IntKind.i64.wrap (95 + (Int.tmod (IntKind.i64.wrap ((Int.tmod p1 3) + 3)) 3)))), (5, Vp b8_j1 0)] ⟨rfl, rfl, rfl, trivial⟩ (fun J => ?_)
 refine c_sp ?_
 refine x_load (xv := Vp b8_j1 0) (.agg #[Vi 12, .slice a3_j1 (d3_l3).length c3_j1, .slice a5_j1 (d5_l9).length c5_j1]) rfl rfl rfl (reads_boxagg 0 [Vi 12, .slice a3_j1 (d3_l3).length c3_j1, .slice a5_j1 (d5_l9).length c5_j1] tagg29 hb8_j1 nn rfl) ?_
 obtain ⟨x13, hx, h⟩ := bind_some h
 have hpk : MS wl9 ([] ++ [[b8_j1], []]) := hms.pick [some 2, some 3] _ rfl
 have hsb0 : ∀ x ∈ fl ([] ++ [[b8_j1], []]), x ∈ fl [blk a3_j1, blk a5_j1, [b8_j1], []] := pick_sub [some 2, some 3] _ rfl
 have hsb : ∀ x ∈ fl ([] ++ [(fl [[b8_j1], []])]), x ∈ fl [blk a3_j1, blk a5_j1, [b8_j1], []] := fun x hx => hsb0 x (fl_unfold x hx)
 have hcall := certificate_Encode_w 12 a3_j1 c3_j1 d3_l3 a5_j1 c5_j1 d5_l9 _ wl9 (fl [[b8_j1], []]) (MS.fold (P := []) hpk) (hj3_j1.ro hsb (fun b hb hb2 => pick_out hms 0 rfl [some 2, some 3] ([] ++ [[b8_j1], []]) rfl rfl b hb (fl_unfold b hb2))) (hj5_j1.ro hsb (fun b hb hb2 => pick_out hms 1 rfl [some 2, some 3] ([] ++ [[b8_j1], []]) rfl rfl b hb (fl_unfold b hb2))) hx
 refine x_call 21 #[] #[] [.agg #[Vi 12, .slice a3_j1 (d3_l3).length c3_j1, .slice a5_j1 (d5_l9).length c5_j1]] _ rfl rfl rfl rfl hcall ?_
 rintro v w14 ⟨a0_14, c0_14, rfl, he14, hmn14, hfn14, hf14_1⟩
 clear hcall hx
 refine inl1 ?_
 have hpk2 : MS wl9 ([] ++ [blk a3_j1, blk a5_j1, [b8_j1], []]) := hms.pick [some 0, some 1, some 2, some 3] _ rfl
 have hsb2 : ∀ x ∈ fl ([] ++ [blk a3_j1, blk a5_j1, [b8_j1], []]), x ∈ fl [blk a3_j1, blk a5_j1, [b8_j1], []] := pick_sub [some 0, some 1, some 2, some 3] _ rfl
 have hst0 := Stp.call (LS := [blk a3_j1, blk a5_j1, [b8_j1], []]) (res := [blk a0_14]) (par := []) (R := [blk a3_j1, blk a5_j1, [b8_j1], []]) he14 (fun b hb => hsb2 b (fl_left' (P := []) b hb)) hfn14 (NP.init _ _) (fun x hx => hsb2 x (fl_right' (P := []) x hx))
 have hsn : ∀ x ∈ fl [blk a0_14, blk a3_j1, blk a5_j1, [b8_j1], []], x ∈ fl ([blk a0_14] ++ ([] ++ [blk a3_j1, blk a5_j1, [b8_j1], []])) := pick_sub [some 0, some 1, some 2, some 3, some 4] _ rfl
 have hst := hst0.res hsn
 replace hb8_j1 := he14.box hb8_j1 ((MS.outs (P := []) hpk2 2 rfl) _ mem1)
 replace hj3_j1 := hj3_j1.step hst he14 (MS.outs (P := []) hpk2 0 rfl)
 replace hj5_j1 := hj5_j1.step hst he14 (MS.outs (P := []) hpk2 1 rfl)
 replace hms : MS w14 [blk a0_14, blk a3_j1, blk a5_j1, [b8_j1], []] := (MS.call (P := []) (R := [blk a3_j1, blk a5_j1, [b8_j1], []]) (res := [blk a0_14]) (par := []) hpk2 he14 hmn14 hfn14 (NP.init _ _)).pick [some 0, some 1, some 2, some 3, some 4] _ rfl
 have hfr2 : FR w.heap.size [blk a0_14, blk a3_j1, blk a5_j1, [b8_j1]] := (FR.cons (fun b hb => Nat.le_trans hev.size (hfn14.at 0 rfl b hb)) (FR.cons (hfr.at 0 rfl) (FR.cons (hfr.at 1 rfl) (FR.cons (hfr.at 2 rfl) (FR.nil _)))))
 replace hev := hev.ext he14
 replace hfr := hfr2
 clear hfr2
 replace hf14_1 := OwnS.plain (M' := fl [blk a0_14, blk a3_j1, blk a5_j1, [b8_j1], []]) (plain_int _) hf14_1
 clear hpk hsb hsb0 hpk2 hsb2 hst0 hsn hst
 have hpk : MS w14 [blk a3_j1, blk a5_j1, [b8_j1], []] := hms.pick [some 1, some 2, some 3, some 4] _ rfl
 have hsu : ∀ x ∈ fl [blk a3_j1, blk a5_j1, [b8_j1], []], x ∈ fl [blk a0_14, blk a3_j1, blk a5_j1, [b8_j1], []] := pick_sub [some 1, some 2, some 3, some 4] _ rfl
 replace hj3_j1 := hj3_j1.sub hsu
 replace hj5_j1 := hj5_j1.sub hsu
 replace hf14_1 := hf14_1.ro hsu (pick_out hms 0 rfl [some 1, some 2, some 3, some 4] [blk a3_j1, blk a5_j1, [b8_j1], []] rfl rfl)
 replace hms := hpk
 replace hfr : FR w.heap.size [blk a3_j1, blk a5_j1, [b8_j1]] := hfr.pick [some 1, some 2, some 3] _ rfl
 clear hpk hsu
 refine x_u 5 [(57, .tuple #[.slice a0_14 (x13.1).length c0_14, Vi x13.2]), (60, .slice a0_14 (x13.1).length c0_14), (61, Vi x13.2), (8, .slice a0_14 (x13.1).length c0_14), (9, Vi x13.2)] ?_
 refine x_ek ?_
 refine c_seq ?_
 refine c_join (σ := Bool) (fun s => match s with | t67__s67_j17 => [(0, Vi (IntKind.i64.wrap (95 + (Int.tmod (IntKind.i64.wrap ((Int.tmod p0 3) + 3)) 3)))), (1, Vi (IntKind.i64.wrap (95 + (Int.tmod (IntKind.i64.wrap ((Int.tmod p1 3) + 3)) 3)))), (5, Vp b8_j1 0), (8, .slice a0_14 (x13.1).length c0_14), (9, Vi x13.2), (67, .bool t67__s67_j17)]) (fun s w' => match s with | t67__s67_j17 => law15_CertificateLimits_J17 p0 p1 d3_l3 d5_l9 x13 t67__s67_j17 = some r ∧ Ev [] w w' ∧ MS w' [blk a3_j1, blk a5_j1, [b8_j1], []] ∧ FR w.heap.size [blk a3_j1, blk a5_j1, [b8_j1]] ∧ OwnS (eInt .i64) 3 w' (fl [blk a3_j1, blk a5_j1, [b8_j1], []]) a3_j1 c3_j1 d3_l3 ∧ OwnS (eInt .i64) 3 w' (fl [blk a3_j1, blk a5_j1, [b8_j1], []]) a5_j1 c5_j1 d5_l9 ∧ w'.heap[b8_j1]? = some (.cells #[Vi 12, .slice a3_j1 (d3_l3).length c3_j1, .slice a5_j1 (d5_l9).length c5_j1] 29 (0, 0)) ∧ SlR (eInt .u8) w' (fl [blk a3_j1, blk a5_j1, [b8_j1], []]) a0_14 c0_14 x13.1) ?_ ?_
 · refine c_plain ?_
   refine x_u 3 [(62, Vi (IntKind.i64.wrap (95 + (Int.tmod (IntKind.i64.wrap ((Int.tmod p0 3) + 3)) 3)))), (63, .bool (decide ((IntKind.i64.wrap (95 + (Int.tmod (IntKind.i64.wrap ((Int.tmod p0 3) + 3)) 3))) > 96))), (64, .bool (decide ((IntKind.i64.wrap (95 + (Int.tmod (IntKind.i64.wrap ((Int.tmod p0 3) + 3)) 3))) > 96)))] ?_
   refine x_if 64 (decide ((IntKind.i64.wrap (95 + (Int.tmod (IntKind.i64.wrap ((Int.tmod p0 3) + 3)) 3))) > 96)) rfl h (fun h => ?_) (fun h => ?_)
   · refine x_u 3 [(65, undef), (66, undef), (67, .bool true)] ?_
     refine x_end rfl ?_
     exact k_then ⟨true, ⟨rfl, rfl, rfl, rfl, rfl, rfl, trivial⟩, h, hev, hms, hfr, hj3_j1, hj5_j1, hb8_j1, hf14_1⟩
   refine x_u 3 [(65, Vi (IntKind.i64.wrap (95 + (Int.tmod (IntKind.i64.wrap ((Int.tmod p1 3) + 3)) 3)))), (66, .bool (decide ((IntKind.i64.wrap (95 + (Int.tmod (IntKind.i64.wrap ((Int.tmod p1 3) + 3)) 3))) > 96))), (67, .bool (decide ((IntKind.i64.wrap (95 + (Int.tmod (IntKind.i64.wrap ((Int.tmod p1 3) + 3)) 3))) > 96)))] ?_
   refine x_end rfl ?_
   exact k_then ⟨decide ((IntKind.i64.wrap (95 + (Int.tmod (IntKind.i64.wrap ((Int.tmod p1 3) + 3)) 3))) > 96), ⟨rfl, rfl, rfl, rfl, rfl, rfl, trivial⟩, h, hev, hms, hfr, hj3_j1, hj5_j1, hb8_j1, hf14_1⟩
 rintro t67__s67_j17 J wj17 ⟨h, hev, hms, hfr, hj3_j1, hj5_j1, hb8_j1, hf14_1⟩
 refine c_if t67__s67_j17 rfl h (fun h => ?_) (fun h => ?_)
 · refine c_sp ?_
   refine x_u 3 [(68, Vi x13.2), (69, .bool (x13.2 == 3)), (70, .bool (x13.2 == 3))] ?_
   refine x_if 70 (x13.2 == 3) rfl h (fun h => ?_) (fun h => ?_)
   · refine x_u 1 [(71, .slice a0_14 (x13.1).length c0_14)] ?_
     refine x_len (vs := [.slice a0_14 (x13.1).length c0_14]) (Vi ((x13.1).length : Int)) rfl rfl rfl (reads_len tsl46 _ _ _ _ _) ?_
     refine x_u 3 [(73, .bool (((x13.1).length : Int) == 0)), (74, .bool (((x13.1).length : Int) == 0)), (75, .bool (((x13.1).length : Int) == 0))] ?_
     refine x_if 75 (((x13.1).length : Int) == 0) rfl h (fun h => ?_) (fun h => ?_)
     · obtain ⟨x18, hx, h⟩ := bind_some h
       have hcall := law15_sane_w _ wj17 hx
       refine x_call 17 #[] #[] [] _ rfl rfl rfl rfl hcall ?_
       rintro v w19 ⟨rfl, he19⟩
       clear hcall hx
       refine inl1 ?_
       have hst := Stp.ext (ls := [blk a3_j1, blk a5_j1, [b8_j1], []]) he19
       replace hb8_j1 := he19.box hb8_j1 nn
       replace hj3_j1 := hj3_j1.step hst he19 nn2
       replace hj5_j1 := hj5_j1.step hst he19 nn2
       replace hf14_1 := hf14_1.step hst
       replace hms := hms.ev he19
       replace hev := hev.ext he19
       refine x_u 2 [(77, .bool x18), (4, .bool x18)] ?_
       refine x_ek ?_
       refine c_norm [(4, .bool x18)] ⟨rfl, trivial⟩ (fun J => ?_)
       refine c_ret ?_
       refine k_then_ret ?_
       refine r_ret (r_vals [.bool x18] ⟨rfl, trivial⟩ ?_)
       have hx := some_inj h
       subst hx
       exact ⟨rfl, hev⟩
     refine x_u 3 [(76, undef), (77, .bool false), (4, .bool false)] ?_
     refine x_ek ?_
     refine c_norm [(4, .bool false)] ⟨rfl, trivial⟩ (fun J => ?_)
     refine c_ret ?_
     refine k_then_ret ?_
     refine r_ret (r_vals [.bool false] ⟨rfl, trivial⟩ ?_)
     have hx := some_inj h
     subst hx
     exact ⟨rfl, hev⟩
   refine x_u 8 [(71, undef), (72, undef), (73, undef), (74, .bool false), (75, .bool false), (76, undef), (77, .bool false), (4, .bool false)] ?_
   refine x_ek ?_
   refine c_norm [(4, .bool false)] ⟨rfl, trivial⟩ (fun J => ?_)
   refine c_ret ?_
   refine k_then_ret ?_
   refine r_ret (r_vals [.bool false] ⟨rfl, trivial⟩ ?_)
   have hx := some_inj h
   subst hx
   exact ⟨rfl, hev⟩
 refine c_skip ?_
 refine k_then ?_
 refine c_norm [(0, Vi (IntKind.i64.wrap (95 + (Int.tmod (IntKind.i64.wrap ((Int.tmod p0 3) + 3)) 3)))), (1, Vi (IntKind.i64.wrap (95 + (Int.tmod (IntKind.i64.wrap ((Int.tmod p1 3) + 3)) 3)))), (5, Vp b8_j1 0), (8, .slice a0_14 (x13.1).length c0_14), (9, Vi x13.2)] ⟨rfl, rfl, rfl, rfl, rfl, trivial⟩ (fun J => ?_)
 refine c_sp ?_
 refine x_u 1 [(79, .slice a0_14 (x13.1).length c0_14)] ?_
 obtain ⟨x20, hx, h⟩ := bind_some h
 have hpk : MS wj17 ([] ++ [blk a3_j1, blk a5_j1, [b8_j1], []]) := hms.pick [some 0, some 1, some 2, some 3] _ rfl
 have hsb0 : ∀ x ∈ fl ([] ++ [blk a3_j1, blk a5_j1, [b8_j1], []]), x ∈ fl [blk a3_j1, blk a5_j1, [b8_j1], []] := pick_sub [some 0, some 1, some 2, some 3] _ rfl
 have hsb : ∀ x ∈ fl ([] ++ [(fl [blk a3_j1, blk a5_j1, [b8_j1], []])]), x ∈ fl [blk a3_j1, blk a5_j1, [b8_j1], []] := fun x hx => hsb0 x (fl_unfold x hx)
 have hcall := certificate_Decode_w a0_14 c0_14 x13.1 _ wj17 (fl [blk a3_j1, blk a5_j1, [b8_j1], []]) (MS.fold (P := []) hpk) (hf14_1.sub hsb) hx
 refine x_call 22 #[] #[] [.slice a0_14 (x13.1).length c0_14] _ rfl rfl rfl rfl hcall ?_
 rintro v w21 ⟨a0_21, c0_21, a2_21, c2_21, rfl, he21, hmn21, hfn21, hf21_1, hf21_2⟩
 clear hcall hx
 refine inl1 ?_
 have hpk2 : MS wj17 ([] ++ [blk a3_j1, blk a5_j1, [b8_j1], []]) := hms.pick [some 0, some 1, some 2, some 3] _ rfl
 have hsb2 : ∀ x ∈ fl ([] ++ [blk a3_j1, blk a5_j1, [b8_j1], []]), x ∈ fl [blk a3_j1, blk a5_j1, [b8_j1], []] := pick_sub [some 0, some 1, some 2, some 3] _ rfl
 have hst0 := Stp.call (LS := [blk a3_j1, blk a5_j1, [b8_j1], []]) (res := [blk a0_21, blk a2_21]) (par := []) (R := [blk a3_j1, blk a5_j1, [b8_j1], []]) he21 (fun b hb => hsb2 b (fl_left' (P := []) b hb)) hfn21 (NP.init _ _) (fun x hx => hsb2 x (fl_right' (P := []) x hx))
 have hsn : ∀ x ∈ fl [blk a0_21, blk a2_21, blk a3_j1, blk a5_j1, [b8_j1], []], x ∈ fl ([blk a0_21, blk a2_21] ++ ([] ++ [blk a3_j1, blk a5_j1, [b8_j1], []])) := pick_sub [some 0, some 1, some 2, some 3, some 4, some 5] _ rfl
 have hst := hst0.res hsn
 replace hb8_j1 := he21.box hb8_j1 ((MS.outs (P := []) hpk2 2 rfl) _ mem1)
 replace hj3_j1 := hj3_j1.step hst he21 (MS.outs (P := []) hpk2 0 rfl)
 replace hj5_j1 := hj5_j1.step hst he21 (MS.outs (P := []) hpk2 1 rfl)
 replace hf14_1 := hf14_1.step hst
 replace hms : MS w21 [blk a0_21, blk a2_21, blk a3_j1, blk a5_j1, [b8_j1], []] := (MS.call (P := []) (R := [blk a3_j1, blk a5_j1, [b8_j1], []]) (res := [blk a0_21, blk a2_21]) (par := []) hpk2 he21 hmn21 hfn21 (NP.init _ _)).pick [some 0, some 1, some 2, some 3, some 4, some 5] _ rfl
 have hfr2 : FR w.heap.size [blk a0_21, blk a2_21, blk a3_j1, blk a5_j1, [b8_j1]] := (FR.cons (fun b hb => Nat.le_trans hev.size (hfn21.at 0 rfl b hb)) (FR.cons (fun b hb => Nat.le_trans hev.size (hfn21.at 1 rfl b hb)) (FR.cons (hfr.at 0 rfl) (FR.cons (hfr.at 1 rfl) (FR.cons (hfr.at 2 rfl) (FR.nil _))))))
 replace hev := hev.ext he21
 replace hfr := hfr2
 clear hfr2
 replace hf21_1 := OwnS.plain (M' := fl [blk a0_21, blk a2_21, blk a3_j1, blk a5_j1, [b8_j1], []]) (plain_int _) hf21_1
 replace hf21_2 := OwnS.plain (M' := fl [blk a0_21, blk a2_21, blk a3_j1, blk a5_j1, [b8_j1], []]) (plain_int _) hf21_2
 clear hpk hsb hsb0 hpk2 hsb2 hst0 hsn hst
 have hpk : MS w21 [blk a2_21, blk a3_j1, blk a5_j1, [b8_j1], []] := hms.pick [some 1, some 2, some 3, some 4, some 5] _ rfl
 have hsu : ∀ x ∈ fl [blk a2_21, blk a3_j1, blk a5_j1, [b8_j1], []], x ∈ fl [blk a0_21, blk a2_21, blk a3_j1, blk a5_j1, [b8_j1], []] := pick_sub [some 1, some 2, some 3, some 4, some 5] _ rfl
 replace hj3_j1 := hj3_j1.sub hsu
 replace hj5_j1 := hj5_j1.sub hsu
 replace hf14_1 := hf14_1.sub hsu
 replace hf21_1 := hf21_1.ro hsu (pick_out hms 0 rfl [some 1, some 2, some 3, some 4, some 5] [blk a2_21, blk a3_j1, blk a5_j1, [b8_j1], []] rfl rfl)
 replace hf21_2 := hf21_2.sub hsu
 replace hms := hpk
 replace hfr : FR w.heap.size [blk a2_21, blk a3_j1, blk a5_j1, [b8_j1]] := hfr.pick [some 1, some 2, some 3, some 4] _ rfl
 clear hpk hsu
 have hpk : MS w21 [blk a3_j1, blk a5_j1, [b8_j1], []] := hms.pick [some 1, some 2, some 3, some 4] _ rfl
 have hsu : ∀ x ∈ fl [blk a3_j1, blk a5_j1, [b8_j1], []], x ∈ fl [blk a2_21, blk a3_j1, blk a5_j1, [b8_j1], []] := pick_sub [some 1, some 2, some 3, some 4] _ rfl
 replace hj3_j1 := hj3_j1.sub hsu
 replace hj5_j1 := hj5_j1.sub hsu
 replace hf14_1 := hf14_1.sub hsu
 replace hf21_1 := hf21_1.sub hsu
 replace hf21_2 := hf21_2.ro hsu (pick_out hms 0 rfl [some 1, some 2, some 3, some 4] [blk a3_j1, blk a5_j1, [b8_j1], []] rfl rfl)
 replace hms := hpk
 replace hfr : FR w.heap.size [blk a3_j1, blk a5_j1, [b8_j1]] := hfr.pick [some 1, some 2, some 3] _ rfl
 clear hpk hsu
 refine x_u 3 [(78, .tuple #[.agg #[Vi x20.1.1.1, .slice a0_21 (x20.1.1.2).length c0_21, .slice a2_21 (x20.1.2).length c2_21], Vi x20.2]), (81, .agg #[Vi x20.1.1.1, .slice a0_21 (x20.1.1.2).length c0_21, .slice a2_21 (x20.1.2).length c2_21]), (82, Vi x20.2)] ?_
 refine x_alloc (z := .agg #[Vi 0, .slice none 0 0, .slice none 0 0]) rfl rfl (by kernel_rfl) (fun b24 w24 hq24 hb24 he24 hz24 => ?_)
 replace hb24 : w24.heap[b24]? = some (.cells #[Vi 0, .slice none 0 0, .slice none 0 0] 29 (0, 0)) := hb24
 refine inl1 ?_
 have hst := Stp.box (ls := [blk a3_j1, blk a5_j1, [b8_j1], []]) he24 hq24
 replace hb8_j1 := he24.box hb8_j1 nn
 replace hj3_j1 := hj3_j1.step hst he24 nn2
 replace hj5_j1 := hj5_j1.step hst he24 nn2
 replace hf14_1 := hf14_1.step hst
 replace hf21_1 := hf21_1.step hst
 replace hf21_2 := hf21_2.step hst
 replace hms := hms.box he24 hq24 hb24
 replace hfr := hfr.box hev.size hq24
 replace hev := hev.ext he24
 obtain ⟨w26, hr26, hb26, he26⟩ := store_boxagg 0 [Vi x20.1.1.1, .slice a0_21 (x20.1.1.2).length c0_21, .slice a2_21 (x20.1.2).length c2_21] #[Vi x20.1.1.1, .slice a0_21 (x20.1.1.2).length c0_21, .slice a2_21 (x20.1.2).length c2_21] tagg29 hb24 rfl rfl rfl
 refine x_store w26 (xv := Vp b24 0) (yv := .agg #[Vi x20.1.1.1, .slice a0_21 (x20.1.1.2).length c0_21, .slice a2_21 (x20.1.2).length c2_21]) rfl rfl rfl rfl hr26 ?_
 refine inl1 ?_
 have hst := Stp.ev' (ls := [[b24], blk a3_j1, blk a5_j1, [b8_j1], []]) he26 (mem_flat 0 rfl)
 replace hb8_j1 := he26.box hb8_j1 (hms.apart 3 0 rfl rfl rfl _ mem1)
 replace hj3_j1 := hj3_j1.step hst he26 (hms.apart 1 0 rfl rfl rfl)
 replace hj5_j1 := hj5_j1.step hst he26 (hms.apart 2 0 rfl rfl rfl)
 replace hf14_1 := hf14_1.step hst
 replace hf21_1 := hf21_1.step hst
 replace hf21_2 := hf21_2.step hst
 replace hms := hms.ev he26
 replace hev := hev.then he26 (fun b hb => .inr (hfr.at 0 rfl b hb))
 replace hb24 := hb26
 refine x_u 1 [(11, Vi x20.2)] ?_
 refine x_ek ?_
 refine c_sp ?_
 refine x_fieldAddr (xv := Vp b8_j1 0) (Vp b8_j1 0) rfl rfl rfl (reads_field tfld29_0 _ _) ?_
 refine x_fieldAddr (xv := Vp b8_j1 0) (Vp b8_j1 1) rfl rfl rfl (reads_field tfld27_1 _ _) ?_
 refine x_load (xv := Vp b8_j1 1) (.slice a3_j1 (d3_l3).length c3_j1) rfl rfl rfl (reads_box tcell22 hb8_j1 nn 1 _ rfl) ?_
 refine x_u 2 [(86, Vi (IntKind.i64.wrap (95 + (Int.tmod (IntKind.i64.wrap ((Int.tmod p0 3) + 3)) 3)))), (87, Vi (IntKind.i64.wrap (Int.tdiv (IntKind.i64.wrap (95 + (Int.tmod (IntKind.i64.wrap ((Int.tmod p0 3) + 3)) 3))) 2)))] ?_
 obtain ⟨x27, hx27, h⟩ := bind_some h
 obtain ⟨g27, cs27, ha27, hr27, hc27, hR⟩ := own_index (Mo := []) tsl22 hj3_j1 hx27
 obtain rfl := hR
 refine x_indexAddr (xv := .slice a3_j1 (d3_l3).length c3_j1) (yv := Vi (IntKind.i64.wrap (Int.tdiv (IntKind.i64.wrap (95 + (Int.tmod (IntKind.i64.wrap ((Int.tmod p0 3) + 3)) 3))) 2))) (.pointer (some ⟨g27, (Int.toNat (IntKind.i64.wrap (Int.tdiv (IntKind.i64.wrap (95 + (Int.tmod (IntKind.i64.wrap ((Int.tmod p0 3) + 3)) 3))) 2))) * (eInt .i64).n, none⟩)) rfl rfl rfl rfl hr27 ?_
 obtain ⟨w29, hr29, he29, ho29⟩ := own_storeE ha27 (y := 4096) 0 (Vi 4096) tcell3 hj3_j1 (mem_flat 1 rfl) hx27 rfl rfl (fun _ _ _ hR => set_int hR)
 refine x_store w29 (xv := .pointer (some ⟨g27, (Int.toNat (IntKind.i64.wrap (Int.tdiv (IntKind.i64.wrap (95 + (Int.tmod (IntKind.i64.wrap ((Int.tmod p0 3) + 3)) 3))) 2))) * (eInt .i64).n, none⟩)) (yv := Vi 4096) rfl rfl rfl rfl hr29 ?_
 refine inl1 ?_
 have hst := Stp.ev' (ls := [[b24], blk a3_j1, blk a5_j1, [b8_j1], []]) he29 (mem_flat 1 rfl)
 replace hb8_j1 := he29.box hb8_j1 (hms.apart 3 1 rfl rfl rfl _ mem1)
 replace hj5_j1 := hj5_j1.step hst he29 (hms.apart 2 1 rfl rfl rfl)
 replace hf14_1 := hf14_1.step hst
 replace hf21_1 := hf21_1.step hst
 replace hf21_2 := hf21_2.step hst
 replace hb24 := he29.box hb24 (hms.apart 0 1 rfl rfl rfl _ mem1)
 replace hms := hms.ev he29
 replace hev := hev.then he29 (fun b hb => .inr (hfr.at 1 rfl b hb))
 replace hj3_j1 := ho29
 have hsl : (Value.slice a3_j1 (d3_l3).length c3_j1) = (Value.slice a3_j1 ((d3_l3.set (Int.toNat (IntKind.i64.wrap (Int.tdiv (IntKind.i64.wrap (95 + (Int.tmod (IntKind.i64.wrap ((Int.tmod p0 3) + 3)) 3))) 2))) 4096)).length c3_j1) := by first | (rw [List.length_set]; done) | simp only [List.length_set]
 rw [hsl] at hb8_j1
 try rw [hsl]
 clear hsl
 refine x_ek ?_
 refine c_sp ?_
 refine x_load (xv := Vp b8_j1 0) (.agg #[Vi 12, .slice a3_j1 ((d3_l3.set (Int.toNat (IntKind.i64.wrap (Int.tdiv (IntKind.i64.wrap (95 + (Int.tmod (IntKind.i64.wrap ((Int.tmod p0 3) + 3)) 3))) 2))) 4096)).length c3_j1, .slice a5_j1 (d5_l9).length c5_j1]) rfl rfl rfl (reads_boxagg 0 [Vi 12, .slice a3_j1 ((d3_l3.set (Int.toNat (IntKind.i64.wrap (Int.tdiv (IntKind.i64.wrap (95 + (Int.tmod (IntKind.i64.wrap ((Int.tmod p0 3) + 3)) 3))) 2))) 4096)).length c3_j1, .slice a5_j1 (d5_l9).length c5_j1] tagg29 hb8_j1 nn rfl) ?_
 obtain ⟨x30, hx, h⟩ := bind_some h
 have hpk : MS w29 ([] ++ [[b24], [b8_j1], []]) := hms.pick [some 0, some 3, some 4] _ rfl
 have hsb0 : ∀ x ∈ fl ([] ++ [[b24], [b8_j1], []]), x ∈ fl [[b24], blk a3_j1, blk a5_j1, [b8_j1], []] := pick_sub [some 0, some 3, some 4] _ rfl
 have hsb : ∀ x ∈ fl ([] ++ [(fl [[b24], [b8_j1], []])]), x ∈ fl [[b24], blk a3_j1, blk a5_j1, [b8_j1], []] := fun x hx => hsb0 x (fl_unfold x hx)
 have hcall := certificate_Encode_w 12 a3_j1 c3_j1 (d3_l3.set (Int.toNat (IntKind.i64.wrap (Int.tdiv (IntKind.i64.wrap (95 + (Int.tmod (IntKind.i64.wrap ((Int.tmod p0 3) + 3)) 3))) 2))) 4096) a5_j1 c5_j1 d5_l9 _ w29 (fl [[b24], [b8_j1], []]) (MS.fold (P := []) hpk) (hj3_j1.ro hsb (fun b hb hb2 => pick_out hms 1 rfl [some 0, some 3, some 4] ([] ++ [[b24], [b8_j1], []]) rfl rfl b hb (fl_unfold b hb2))) (hj5_j1.ro hsb (fun b hb hb2 => pick_out hms 2 rfl [some 0, some 3, some 4] ([] ++ [[b24], [b8_j1], []]) rfl rfl b hb (fl_unfold b hb2))) hx
 refine x_call 21 #[] #[] [.agg #[Vi 12, .slice a3_j1 ((d3_l3.set (Int.toNat (IntKind.i64.wrap (Int.tdiv (IntKind.i64.wrap (95 + (Int.tmod (IntKind.i64.wrap ((Int.tmod p0 3) + 3)) 3))) 2))) 4096)).length c3_j1, .slice a5_j1 (d5_l9).length c5_j1]] _ rfl rfl rfl rfl hcall ?_
 rintro v w31 ⟨a0_31, c0_31, rfl, he31, hmn31, hfn31, hf31_1⟩
 clear hcall hx
 refine inl1 ?_
 have hpk2 : MS w29 ([] ++ [[b24], blk a3_j1, blk a5_j1, [b8_j1], []]) := hms.pick [some 0, some 1, some 2, some 3, some 4] _ rfl
 have hsb2 : ∀ x ∈ fl ([] ++ [[b24], blk a3_j1, blk a5_j1, [b8_j1], []]), x ∈ fl [[b24], blk a3_j1, blk a5_j1, [b8_j1], []] := pick_sub [some 0, some 1, some 2, some 3, some 4] _ rfl
 have hst0 := Stp.call (LS := [[b24], blk a3_j1, blk a5_j1, [b8_j1], []]) (res := [blk a0_31]) (par := []) (R := [[b24], blk a3_j1, blk a5_j1, [b8_j1], []]) he31 (fun b hb => hsb2 b (fl_left' (P := []) b hb)) hfn31 (NP.init _ _) (fun x hx => hsb2 x (fl_right' (P := []) x hx))
 have hsn : ∀ x ∈ fl [blk a0_31, [b24], blk a3_j1, blk a5_j1, [b8_j1], []], x ∈ fl ([blk a0_31] ++ ([] ++ [[b24], blk a3_j1, blk a5_j1, [b8_j1], []])) := pick_sub [some 0, some 1, some 2, some 3, some 4, some 5] _ rfl
 have hst := hst0.res hsn
 replace hb8_j1 := he31.box hb8_j1 ((MS.outs (P := []) hpk2 3 rfl) _ mem1)
 replace hj3_j1 := hj3_j1.step hst he31 (MS.outs (P := []) hpk2 1 rfl)
 replace hj5_j1 := hj5_j1.step hst he31 (MS.outs (P := []) hpk2 2 rfl)
 replace hf14_1 := hf14_1.step hst
 replace hf21_1 := hf21_1.step hst
 replace hf21_2 := hf21_2.step hst
 replace hb24 := he31.box hb24 ((MS.outs (P := []) hpk2 0 rfl) _ mem1)
 replace hms : MS w31 [blk a0_31, [b24], blk a3_j1, blk a5_j1, [b8_j1], []] := (MS.call (P := []) (R := [[b24], blk a3_j1, blk a5_j1, [b8_j1], []]) (res := [blk a0_31]) (par := []) hpk2 he31 hmn31 hfn31 (NP.init _ _)).pick [some 0, some 1, some 2, some 3, some 4, some 5] _ rfl
 have hfr2 : FR w.heap.size [blk a0_31, [b24], blk a3_j1, blk a5_j1, [b8_j1]] := (FR.cons (fun b hb => Nat.le_trans hev.size (hfn31.at 0 rfl b hb)) (FR.cons (hfr.at 0 rfl) (FR.cons (hfr.at 1 rfl) (FR.cons (hfr.at 2 rfl) (FR.cons (hfr.at 3 rfl) (FR.nil _))))))
 replace hev := hev.ext he31
 replace hfr := hfr2
 clear hfr2
 replace hf31_1 := OwnS.plain (M' := fl [blk a0_31, [b24], blk a3_j1, blk a5_j1, [b8_j1], []]) (plain_int _) hf31_1
 clear hpk hsb hsb0 hpk2 hsb2 hst0 hsn hst
 have hpk : MS w31 [[b24], blk a3_j1, blk a5_j1, [b8_j1], []] := hms.pick [some 1, some 2, some 3, some 4, some 5] _ rfl
 have hsu : ∀ x ∈ fl [[b24], blk a3_j1, blk a5_j1, [b8_j1], []], x ∈ fl [blk a0_31, [b24], blk a3_j1, blk a5_j1, [b8_j1], []] := pick_sub [some 1, some 2, some 3, some 4, some 5] _ rfl
 replace hj3_j1 := hj3_j1.sub hsu
 replace hj5_j1 := hj5_j1.sub hsu
 replace hf14_1 := hf14_1.sub hsu
 replace hf21_1 := hf21_1.sub hsu
 replace hf21_2 := hf21_2.sub hsu
 replace hf31_1 := hf31_1.ro hsu (pick_out hms 0 rfl [some 1, some 2, some 3, some 4, some 5] [[b24], blk a3_j1, blk a5_j1, [b8_j1], []] rfl rfl)
 replace hms := hpk
 replace hfr : FR w.heap.size [[b24], blk a3_j1, blk a5_j1, [b8_j1]] := hfr.pick [some 1, some 2, some 3, some 4] _ rfl
 clear hpk hsu
 refine x_u 5 [(89, .tuple #[.slice a0_31 (x30.1).length c0_31, Vi x30.2]), (92, .slice a0_31 (x30.1).length c0_31), (93, Vi x30.2), (12, .slice a0_31 (x30.1).length c0_31), (13, Vi x30.2)] ?_
 refine x_ek ?_
 refine c_norm [(0, Vi (IntKind.i64.wrap (95 + (Int.tmod (IntKind.i64.wrap ((Int.tmod p0 3) + 3)) 3)))), (1, Vi (IntKind.i64.wrap (95 + (Int.tmod (IntKind.i64.wrap ((Int.tmod p1 3) + 3)) 3)))), (5, Vp b8_j1 0), (8, .slice a0_14 (x13.1).length c0_14), (9, Vi x13.2), (10, Vp b24 0), (11, Vi x20.2), (13, Vi x30.2)] ⟨rfl, rfl, rfl, rfl, rfl, rfl, rfl, rfl, trivial⟩ (fun J => ?_)
 refine c_sp ?_
 refine x_fieldAddr (xv := Vp b8_j1 0) (Vp b8_j1 0) rfl rfl rfl (reads_field tfld29_0 _ _) ?_
 refine x_fieldAddr (xv := Vp b8_j1 0) (Vp b8_j1 1) rfl rfl rfl (reads_field tfld27_1 _ _) ?_
 refine x_load (xv := Vp b8_j1 1) (.slice a3_j1 ((d3_l3.set (Int.toNat (IntKind.i64.wrap (Int.tdiv (IntKind.i64.wrap (95 + (Int.tmod (IntKind.i64.wrap ((Int.tmod p0 3) + 3)) 3))) 2))) 4096)).length c3_j1) rfl rfl rfl (reads_box tcell22 hb8_j1 nn 1 _ rfl) ?_
 refine x_u 5 [(97, Vi (IntKind.i64.wrap (95 + (Int.tmod (IntKind.i64.wrap ((Int.tmod p0 3) + 3)) 3)))), (98, Vi (IntKind.i64.wrap (Int.tdiv (IntKind.i64.wrap (95 + (Int.tmod (IntKind.i64.wrap ((Int.tmod p0 3) + 3)) 3))) 2))), (99, Vi (IntKind.i64.wrap (95 + (Int.tmod (IntKind.i64.wrap ((Int.tmod p0 3) + 3)) 3)))), (100, Vi (IntKind.i64.wrap (Int.tdiv (IntKind.i64.wrap (95 + (Int.tmod (IntKind.i64.wrap ((Int.tmod p0 3) + 3)) 3))) 2))), (101, Vi (IntKind.i64.wrap (4095 - (IntKind.i64.wrap (Int.tdiv (IntKind.i64.wrap (95 + (Int.tmod (IntKind.i64.wrap ((Int.tmod p0 3) + 3)) 3))) 2)))))] ?_
 obtain ⟨x33, hx33, h⟩ := bind_some h
 obtain ⟨g33, cs33, ha33, hr33, hc33, hR⟩ := own_index (Mo := []) tsl22 hj3_j1 hx33
 obtain rfl := hR
 refine x_indexAddr (xv := .slice a3_j1 ((d3_l3.set (Int.toNat (IntKind.i64.wrap (Int.tdiv (IntKind.i64.wrap (95 + (Int.tmod (IntKind.i64.wrap ((Int.tmod p0 3) + 3)) 3))) 2))) 4096)).length c3_j1) (yv := Vi (IntKind.i64.wrap (Int.tdiv (IntKind.i64.wrap (95 + (Int.tmod (IntKind.i64.wrap ((Int.tmod p0 3) + 3)) 3))) 2))) (.pointer (some ⟨g33, (Int.toNat (IntKind.i64.wrap (Int.tdiv (IntKind.i64.wrap (95 + (Int.tmod (IntKind.i64.wrap ((Int.tmod p0 3) + 3)) 3))) 2))) * (eInt .i64).n, none⟩)) rfl rfl rfl rfl hr33 ?_
 obtain ⟨w35, hr35, he35, ho35⟩ := own_storeE ha33 (y := IntKind.i64.wrap (4095 - (IntKind.i64.wrap (Int.tdiv (IntKind.i64.wrap (95 + (Int.tmod (IntKind.i64.wrap ((Int.tmod p0 3) + 3)) 3))) 2)))) 0 (Vi (IntKind.i64.wrap (4095 - (IntKind.i64.wrap (Int.tdiv (IntKind.i64.wrap (95 + (Int.tmod (IntKind.i64.wrap ((Int.tmod p0 3) + 3)) 3))) 2))))) tcell3 hj3_j1 (mem_flat 1 rfl) hx33 rfl rfl (fun _ _ _ hR => set_int hR)
 refine x_store w35 (xv := .pointer (some ⟨g33, (Int.toNat (IntKind.i64.wrap (Int.tdiv (IntKind.i64.wrap (95 + (Int.tmod (IntKind.i64.wrap ((Int.tmod p0 3) + 3)) 3))) 2))) * (eInt .i64).n, none⟩)) (yv := Vi (IntKind.i64.wrap (4095 - (IntKind.i64.wrap (Int.tdiv (IntKind.i64.wrap (95 + (Int.tmod (IntKind.i64.wrap ((Int.tmod p0 3) + 3)) 3))) 2))))) rfl rfl rfl rfl hr35 ?_
 refine inl1 ?_
 have hst := Stp.ev' (ls := [[b24], blk a3_j1, blk a5_j1, [b8_j1], []]) he35 (mem_flat 1 rfl)
 replace hb8_j1 := he35.box hb8_j1 (hms.apart 3 1 rfl rfl rfl _ mem1)
 replace hj5_j1 := hj5_j1.step hst he35 (hms.apart 2 1 rfl rfl rfl)
 replace hf14_1 := hf14_1.step hst
 replace hf21_1 := hf21_1.step hst
 replace hf21_2 := hf21_2.step hst
 replace hb24 := he35.box hb24 (hms.apart 0 1 rfl rfl rfl _ mem1)
 replace hms := hms.ev he35
 replace hev := hev.then he35 (fun b hb => .inr (hfr.at 1 rfl b hb))
 replace hj3_j1 := ho35
 have hsl : (Value.slice a3_j1 ((d3_l3.set (Int.toNat (IntKind.i64.wrap (Int.tdiv (IntKind.i64.wrap (95 + (Int.tmod (IntKind.i64.wrap ((Int.tmod p0 3) + 3)) 3))) 2))) 4096)).length c3_j1) = (Value.slice a3_j1 (((d3_l3.set (Int.toNat (IntKind.i64.wrap (Int.tdiv (IntKind.i64.wrap (95 + (Int.tmod (IntKind.i64.wrap ((Int.tmod p0 3) + 3)) 3))) 2))) 4096).set (Int.toNat (IntKind.i64.wrap (Int.tdiv (IntKind.i64.wrap (95 + (Int.tmod (IntKind.i64.wrap ((Int.tmod p0 3) + 3)) 3))) 2))) (IntKind.i64.wrap (4095 - (IntKind.i64.wrap (Int.tdiv (IntKind.i64.wrap (95 + (Int.tmod (IntKind.i64.wrap ((Int.tmod p0 3) + 3)) 3))) 2)))))).length c3_j1) := by first | (rw [List.length_set]; done) | simp only [List.length_set]
 rw [hsl] at hb8_j1
 try rw [hsl]
 clear hsl
 refine x_ek ?_
 refine c_sp ?_
 refine x_u 3 [(103, Vi x13.2), (104, .bool (x13.2 == 0)), (105, .bool (x13.2 == 0))] ?_
 refine x_if 105 (x13.2 == 0) rfl h (fun h => ?_) (fun h => ?_)
 · refine x_u 1 [(106, .slice a0_14 (x13.1).length c0_14)] ?_
   refine x_len (vs := [.slice a0_14 (x13.1).length c0_14]) (Vi ((x13.1).length : Int)) rfl rfl rfl (reads_len tsl46 _ _ _ _ _) ?_
   refine x_u 8 [(108, Vi (IntKind.i64.wrap (95 + (Int.tmod (IntKind.i64.wrap ((Int.tmod p0 3) + 3)) 3)))), (109, Vi (IntKind.i64.wrap (2 * (IntKind.i64.wrap (95 + (Int.tmod (IntKind.i64.wrap ((Int.tmod p0 3) + 3)) 3)))))), (110, Vi (IntKind.i64.wrap (3 + (IntKind.i64.wrap (2 * (IntKind.i64.wrap (95 + (Int.tmod (IntKind.i64.wrap ((Int.tmod p0 3) + 3)) 3)))))))), (111, Vi (IntKind.i64.wrap (95 + (Int.tmod (IntKind.i64.wrap ((Int.tmod p1 3) + 3)) 3)))), (112, Vi (IntKind.i64.wrap ((IntKind.i64.wrap (3 + (IntKind.i64.wrap (2 * (IntKind.i64.wrap (95 + (Int.tmod (IntKind.i64.wrap ((Int.tmod p0 3) + 3)) 3))))))) + (IntKind.i64.wrap (95 + (Int.tmod (IntKind.i64.wrap ((Int.tmod p1 3) + 3)) 3)))))), (113, .bool (((x13.1).length : Int) == (IntKind.i64.wrap ((IntKind.i64.wrap (3 + (IntKind.i64.wrap (2 * (IntKind.i64.wrap (95 + (Int.tmod (IntKind.i64.wrap ((Int.tmod p0 3) + 3)) 3))))))) + (IntKind.i64.wrap (95 + (Int.tmod (IntKind.i64.wrap ((Int.tmod p1 3) + 3)) 3))))))), (114, .bool (((x13.1).length : Int) == (IntKind.i64.wrap ((IntKind.i64.wrap (3 + (IntKind.i64.wrap (2 * (IntKind.i64.wrap (95 + (Int.tmod (IntKind.i64.wrap ((Int.tmod p0 3) + 3)) 3))))))) + (IntKind.i64.wrap (95 + (Int.tmod (IntKind.i64.wrap ((Int.tmod p1 3) + 3)) 3))))))), (115, .bool (((x13.1).length : Int) == (IntKind.i64.wrap ((IntKind.i64.wrap (3 + (IntKind.i64.wrap (2 * (IntKind.i64.wrap (95 + (Int.tmod (IntKind.i64.wrap ((Int.tmod p0 3) + 3)) 3))))))) + (IntKind.i64.wrap (95 + (Int.tmod (IntKind.i64.wrap ((Int.tmod p1 3) + 3)) 3)))))))] ?_
   refine x_if 115 (((x13.1).length : Int) == (IntKind.i64.wrap ((IntKind.i64.wrap (3 + (IntKind.i64.wrap (2 * (IntKind.i64.wrap (95 + (Int.tmod (IntKind.i64.wrap ((Int.tmod p0 3) + 3)) 3))))))) + (IntKind.i64.wrap (95 + (Int.tmod (IntKind.i64.wrap ((Int.tmod p1 3) + 3)) 3)))))) rfl h (fun h => ?_) (fun h => ?_)
   · refine x_u 4 [(116, Vi x20.2), (117, .bool (x20.2 == 0)), (118, .bool (x20.2 == 0)), (119, .bool (x20.2 == 0))] ?_
     refine x_if 119 (x20.2 == 0) rfl h (fun h => ?_) (fun h => ?_)
     · refine x_load (xv := Vp b8_j1 0) (.agg #[Vi 12, .slice a3_j1 (((d3_l3.set (Int.toNat (IntKind.i64.wrap (Int.tdiv (IntKind.i64.wrap (95 + (Int.tmod (IntKind.i64.wrap ((Int.tmod p0 3) + 3)) 3))) 2))) 4096).set (Int.toNat (IntKind.i64.wrap (Int.tdiv (IntKind.i64.wrap (95 + (Int.tmod (IntKind.i64.wrap ((Int.tmod p0 3) + 3)) 3))) 2))) (IntKind.i64.wrap (4095 - (IntKind.i64.wrap (Int.tdiv (IntKind.i64.wrap (95 + (Int.tmod (IntKind.i64.wrap ((Int.tmod p0 3) + 3)) 3))) 2)))))).length c3_j1, .slice a5_j1 (d5_l9).length c5_j1]) rfl rfl rfl (reads_boxagg 0 [Vi 12, .slice a3_j1 (((d3_l3.set (Int.toNat (IntKind.i64.wrap (Int.tdiv (IntKind.i64.wrap (95 + (Int.tmod (IntKind.i64.wrap ((Int.tmod p0 3) + 3)) 3))) 2))) 4096).set (Int.toNat (IntKind.i64.wrap (Int.tdiv (IntKind.i64.wrap (95 + (Int.tmod (IntKind.i64.wrap ((Int.tmod p0 3) + 3)) 3))) 2))) (IntKind.i64.wrap (4095 - (IntKind.i64.wrap (Int.tdiv (IntKind.i64.wrap (95 + (Int.tmod (IntKind.i64.wrap ((Int.tmod p0 3) + 3)) 3))) 2)))))).length c3_j1, .slice a5_j1 (d5_l9).length c5_j1] tagg29 hb8_j1 nn rfl) ?_
       refine x_load (xv := Vp b24 0) (.agg #[Vi x20.1.1.1, .slice a0_21 (x20.1.1.2).length c0_21, .slice a2_21 (x20.1.2).length c2_21]) rfl rfl rfl (reads_boxagg 0 [Vi x20.1.1.1, .slice a0_21 (x20.1.1.2).length c0_21, .slice a2_21 (x20.1.2).length c2_21] tagg29 hb24 nn rfl) ?_
       obtain ⟨x36, hx, h⟩ := bind_some h
       have hpk : MS w35 ([] ++ [[b24], [b8_j1], []]) := hms.pick [some 0, some 3, some 4] _ rfl
       have hsb0 : ∀ x ∈ fl ([] ++ [[b24], [b8_j1], []]), x ∈ fl [[b24], blk a3_j1, blk a5_j1, [b8_j1], []] := pick_sub [some 0, some 3, some 4] _ rfl
       have hsb : ∀ x ∈ fl ([] ++ [(fl [[b24], [b8_j1], []])]), x ∈ fl [[b24], blk a3_j1, blk a5_j1, [b8_j1], []] := fun x hx => hsb0 x (fl_unfold x hx)
       have hcall := gen_Proofs_w 12 a3_j1 c3_j1 ((d3_l3.set (Int.toNat (IntKind.i64.wrap (Int.tdiv (IntKind.i64.wrap (95 + (Int.tmod (IntKind.i64.wrap ((Int.tmod p0 3) + 3)) 3))) 2))) 4096).set (Int.toNat (IntKind.i64.wrap (Int.tdiv (IntKind.i64.wrap (95 + (Int.tmod (IntKind.i64.wrap ((Int.tmod p0 3) + 3)) 3))) 2))) (IntKind.i64.wrap (4095 - (IntKind.i64.wrap (Int.tdiv (IntKind.i64.wrap (95 + (Int.tmod (IntKind.i64.wrap ((Int.tmod p0 3) + 3)) 3))) 2))))) a5_j1 c5_j1 d5_l9 x20.1.1.1 a0_21 c0_21 x20.1.1.2 a2_21 c2_21 x20.1.2 _ w35 (fl [[b24], [b8_j1], []]) (MS.fold (P := []) hpk) (hj3_j1.ro hsb (fun b hb hb2 => pick_out hms 1 rfl [some 0, some 3, some 4] ([] ++ [[b24], [b8_j1], []]) rfl rfl b hb (fl_unfold b hb2))) (hj5_j1.ro hsb (fun b hb hb2 => pick_out hms 2 rfl [some 0, some 3, some 4] ([] ++ [[b24], [b8_j1], []]) rfl rfl b hb (fl_unfold b hb2))) (hf21_1.sub hsb) (hf21_2.sub hsb) hx
       refine x_call 12 #[] #[] [.agg #[Vi 12, .slice a3_j1 (((d3_l3.set (Int.toNat (IntKind.i64.wrap (Int.tdiv (IntKind.i64.wrap (95 + (Int.tmod (IntKind.i64.wrap ((Int.tmod p0 3) + 3)) 3))) 2))) 4096).set (Int.toNat (IntKind.i64.wrap (Int.tdiv (IntKind.i64.wrap (95 + (Int.tmod (IntKind.i64.wrap ((Int.tmod p0 3) + 3)) 3))) 2))) (IntKind.i64.wrap (4095 - (IntKind.i64.wrap (Int.tdiv (IntKind.i64.wrap (95 + (Int.tmod (IntKind.i64.wrap ((Int.tmod p0 3) + 3)) 3))) 2)))))).length c3_j1, .slice a5_j1 (d5_l9).length c5_j1], .agg #[Vi x20.1.1.1, .slice a0_21 (x20.1.1.2).length c0_21, .slice a2_21 (x20.1.2).length c2_21]] _ rfl rfl rfl rfl hcall ?_
       rintro v w37 ⟨rfl, he37⟩
       clear hcall hx
       refine inl1 ?_
       have hst := Stp.ext (ls := [[b24], blk a3_j1, blk a5_j1, [b8_j1], []]) he37
       replace hb8_j1 := he37.box hb8_j1 nn
       replace hj3_j1 := hj3_j1.step hst he37 nn2
       replace hj5_j1 := hj5_j1.step hst he37 nn2
       replace hf14_1 := hf14_1.step hst
       replace hf21_1 := hf21_1.step hst
       replace hf21_2 := hf21_2.step hst
       replace hb24 := he37.box hb24 nn
       replace hms := hms.ev he37
       replace hev := hev.ext he37
       clear hpk hsb hsb0
       refine x_u 2 [(123, .bool x36), (124, .bool x36)] ?_
       refine x_if 124 x36 rfl h (fun h => ?_) (fun h => ?_)
       · refine x_u 4 [(125, Vi x30.2), (126, .bool (x30.2 == 2)), (127, .bool (x30.2 == 2)), (128, .bool (x30.2 == 2))] ?_
         refine x_if 128 (x30.2 == 2) rfl h (fun h => ?_) (fun h => ?_)
         · obtain ⟨x38, hx, h⟩ := bind_some h
           have hcall := law15_sane_w _ w37 hx
           refine x_call 17 #[] #[] [] _ rfl rfl rfl rfl hcall ?_
           rintro v w39 ⟨rfl, he39⟩
           clear hcall hx
           refine inl1 ?_
           have hst := Stp.ext (ls := [[b24], blk a3_j1, blk a5_j1, [b8_j1], []]) he39
           replace hb8_j1 := he39.box hb8_j1 nn
           replace hj3_j1 := hj3_j1.step hst he39 nn2
           replace hj5_j1 := hj5_j1.step hst he39 nn2
           replace hf14_1 := hf14_1.step hst
           replace hf21_1 := hf21_1.step hst
           replace hf21_2 := hf21_2.step hst
           replace hb24 := he39.box hb24 nn
           replace hms := hms.ev he39
           replace hev := hev.ext he39
           refine x_u 2 [(130, .bool x38), (4, .bool x38)] ?_
           refine x_ek ?_
           refine c_norm [(4, .bool x38)] ⟨rfl, trivial⟩ (fun J => ?_)
           refine c_ret ?_
           refine r_ret (r_vals [.bool x38] ⟨rfl, trivial⟩ ?_)
           have hx := some_inj h
           subst hx
           exact ⟨rfl, hev⟩
         refine x_u 3 [(129, undef), (130, .bool false), (4, .bool false)] ?_
         refine x_ek ?_
         refine c_norm [(4, .bool false)] ⟨rfl, trivial⟩ (fun J => ?_)
         refine c_ret ?_
         refine r_ret (r_vals [.bool false] ⟨rfl, trivial⟩ ?_)
         have hx := some_inj h
         subst hx
         exact ⟨rfl, hev⟩
       refine x_u 7 [(125, undef), (126, undef), (127, .bool false), (128, .bool false), (129, undef), (130, .bool false), (4, .bool false)] ?_
       refine x_ek ?_
       refine c_norm [(4, .bool false)] ⟨rfl, trivial⟩ (fun J => ?_)
       refine c_ret ?_
       refine r_ret (r_vals [.bool false] ⟨rfl, trivial⟩ ?_)
       have hx := some_inj h
       subst hx
       exact ⟨rfl, hev⟩
     refine x_u 12 [(120, undef), (121, undef), (122, undef), (123, .bool false), (124, .bool false), (125, undef), (126, undef), (127, .bool false), (128, .bool false), (129, undef), (130, .bool false), (4, .bool false)] ?_
     refine x_ek ?_
     refine c_norm [(4, .bool false)] ⟨rfl, trivial⟩ (fun J => ?_)
     refine c_ret ?_
     refine r_ret (r_vals [.bool false] ⟨rfl, trivial⟩ ?_)
     have hx := some_inj h
     subst hx
     exact ⟨rfl, hev⟩
   refine x_u 16 [(116, undef), (117, undef), (118, .bool false), (119, .bool false), (120, undef), (121, undef), (122, undef), (123, .bool false), (124, .bool false), (125, undef), (126, undef), (127, .bool false), (128, .bool false), (129, undef), (130, .bool false), (4, .bool false)] ?_
   refine x_ek ?_
   refine c_norm [(4, .bool false)] ⟨rfl, trivial⟩ (fun J => ?_)
   refine c_ret ?_
   refine r_ret (r_vals [.bool false] ⟨rfl, trivial⟩ ?_)
   have hx := some_inj h
   subst hx
   exact ⟨rfl, hev⟩
 refine x_u 26 [(106, undef), (107, undef), (108, undef), (109, undef), (110, undef), (111, undef), (112, undef), (113, undef), (114, .bool false), (115, .bool false), (116, undef), (117, undef), (118, .bool false), (119, .bool false), (120, undef), (121, undef), (122, undef), (123, .bool false), (124, .bool false), (125, undef), (126, undef), (127, .bool false), (128, .bool false), (129, undef), (130, .bool false), (4, .bool false)] ?_
 refine x_ek ?_
 refine c_norm [(4, .bool false)] ⟨rfl, trivial⟩ (fun J => ?_)
 refine c_ret ?_
 refine r_ret (r_vals [.bool false] ⟨rfl, trivial⟩ ?_)
 have hx := some_inj h
 subst hx
 exact ⟨rfl, hev⟩
end Go.Proofs.Ytcignnfdpgeogaa
