
/- Walks, printed by program: each function returns what the partial function of the same name returns. Conditions: those of each theorem. -/
import Derived.Test.YtcignnfdpgeogaaGT
import Derived.Test.YtcignnfdpgeogaaGr11
import Derived.Test.YtcignnfdpgeogaaGr12
set_option linter.unusedVariables false
set_option linter.unusedSimpArgs false
set_option maxRecDepth 4000
namespace Go.Proofs.Ytcignnfdpgeogaa
open Go Go.V Go.Proofs
def r13_Least_L15 (p0_0 : List (Int × Int × Int × Int)) (p0_1 : Int) (b_s7_l13 : Int) (s : (List Int) × Int × Int) : Option (Step ((List Int) × Int × Int) (Int ⊕ ((List Int) × Int))) :=
match s with
| (d11_l15, most_s6_l15, y_s8_l15) =>
(if (decide (y_s8_l15 < ((d11_l15).length : Int))) = true then
((idx p0_0 y_s8_l15).bind fun x18 =>
(if (x18.2.1 != b_s7_l13) = true then
some (.next (d11_l15, most_s6_l15, IntKind.i64.wrap (y_s8_l15 + 1)))
else
((idx p0_0 y_s8_l15).bind fun x20 =>
((r11_Base p0_0 p0_1 d11_l15 y_s8_l15).bind fun x22 =>
((r12_Next x22 x20.2.2.1 p0_1).bind fun x24 =>
(if (x24.2 != 0) = true then
some (.done (.inl x24.2))
else
((idx d11_l15 y_s8_l15).bind fun x28 =>
some (.next ((d11_l15.set (Int.toNat y_s8_l15) x24.1), if x24.1 > most_s6_l15 then x24.1 else most_s6_l15, IntKind.i64.wrap (y_s8_l15 + 1))))))))))
else
some (.done (.inr (d11_l15, most_s6_l15))))

def r13_Least_L13 (p0_0 : List (Int × Int × Int × Int)) (p0_1 : Int) (s : (List Int) × Int × Int) : Option (Step ((List Int) × Int × Int) (Int ⊕ ((List Int) × Int))) :=
match s with
| (d11_l13, most_s6_l13, b_s7_l13) =>
(if (decide (b_s7_l13 < 32)) = true then
((loop (r13_Least_L15 p0_0 p0_1 b_s7_l13) (d11_l13, most_s6_l13, 0)).bind fun d => match d with
| (.inl t3__s3_x1500) => some (.done (.inl t3__s3_x1500))
| (.inr (d11_x1501, most_s6_x1501)) => some (.next (d11_x1501, most_s6_x1501, IntKind.i64.wrap (b_s7_l13 + 1))))
else
some (.done (.inr (d11_l13, most_s6_l13))))

def r13_Least (p0_0 : List (Int × Int × Int × Int)) (p0_1 : Int) : Option ((Int × (List Int)) × Int) :=
((r11_Valid p0_0 p0_1).bind fun x7 =>
(if (x7 != 0) = true then
some ((0, []), x7)
else
(if (0 : Int) ≤ ((p0_0).length : Int) ∧ (((p0_0).length : Int) : Int) ≤ 4294967296 then
((loop (r13_Least_L13 p0_0 p0_1) ((List.replicate (Int.toNat ((p0_0).length : Int)) 0 : List Int), 0, 0)).bind fun d => match d with
| (.inl t3__s3_x1300) => some ((0, []), t3__s3_x1300)
| (.inr (d11_x1301, most_s6_x1301)) => ((r12_Long most_s6_x1301).bind fun x31 =>
some ((x31, d11_x1301), 0)))
else none)))

theorem r13_Least_w (a_p0_0 : Option Addr) (c_p0_0 : Nat) (p0_0 : List (Int × Int × Int × Int)) (p0_1 : Int) (r : (Int × (List Int)) × Int) (w : World) (M : List Nat) (hms : MS w [M]) (hs_p0_0 : SlR (eIt4) w (fl [M]) a_p0_0 c_p0_0 p0_0) (h : r13_Least p0_0 p0_1 = some r) : CallVC Try.prog 33 [.agg #[.slice a_p0_0 (p0_0).length c_p0_0, Vi p0_1]] w fun v w' => ∃ (a0' : Option Addr), ∃ (c0' : Nat), v = .tuple #[.agg #[Vi r.1.1, .slice a0' (r.1.2).length c0'], Vi r.2] ∧ Ev [] w w' ∧ MS w' [blk a0', M] ∧ FR w.heap.size [blk a0'] ∧ OwnS (eInt .i64) 3 w' (fl [blk a0', M]) a0' c0' r.1.2 := by
 refine calls_vc hmx Try.func33 (by kernel_rfl) rfl (rs := [.cell 2 27, .tmp 3]) rfl (by kernel_rfl) (args := [.agg #[.slice a_p0_0 (p0_0).length c_p0_0, Vi p0_1]]) rfl ?_
 have hev : Ev [] w w := Ev.refl _ _
 have hfr : FR w.heap.size [] := FR.nil _
 refine c_sp ?_
 refine x_box (xv := .agg #[.slice a_p0_0 (p0_0).length c_p0_0, Vi p0_1]) rfl rfl rfl (fun b2 w2 hq2 hb2 he2 hz2 => ?_)
 replace hb2 : w2.heap[b2]? = some (.cells #[.slice a_p0_0 (p0_0).length c_p0_0, Vi p0_1] 25 (0, 0)) := hb2
 refine inl1 ?_
 have hst := Stp.box (ls := [M]) he2 hq2
 replace hs_p0_0 := hs_p0_0.step hst
 replace hms := hms.box he2 hq2 hb2
 replace hfr := hfr.box hev.size hq2
 replace hev := hev.ext he2
 refine x_alloc (z := .agg #[Vi 0, .slice none 0 0]) rfl rfl (by kernel_rfl) (fun b4 w4 hq4 hb4 he4 hz4 => ?_)
 replace hb4 : w4.heap[b4]? = some (.cells #[Vi 0, .slice none 0 0] 27 (0, 0)) := hb4
 refine inl1 ?_
 have hst := Stp.box (ls := [[b2], M]) he4 hq4
 replace hs_p0_0 := hs_p0_0.step hst
 replace hb2 := he4.box hb2 nn
 replace hms := hms.box he4 hq4 hb4
 replace hfr := hfr.box hev.size hq4
 replace hev := hev.ext he4
 refine x_u 1 [(3, Vi 0)] ?_
 refine x_ek ?_
 refine c_seq ?_
 refine c_sp ?_
 refine x_load (xv := Vp b2 0) (.agg #[.slice a_p0_0 (p0_0).length c_p0_0, Vi p0_1]) rfl rfl rfl (reads_boxagg 0 [.slice a_p0_0 (p0_0).length c_p0_0, Vi p0_1] tagg25 hb2 nn rfl) ?_
 obtain ⟨x7, hx, h⟩ := bind_some h
 have hpk : MS w4 ([] ++ [[b4], [b2], M]) := hms.pick [some 0, some 1, some 2] _ rfl
 have hsb0 : ∀ x ∈ fl ([] ++ [[b4], [b2], M]), x ∈ fl [[b4], [b2], M] := pick_sub [some 0, some 1, some 2] _ rfl
 have hsb : ∀ x ∈ fl ([] ++ [(fl [[b4], [b2], M])]), x ∈ fl [[b4], [b2], M] := fun x hx => hsb0 x (fl_unfold x hx)
 have hcall := r11_Valid_w a_p0_0 c_p0_0 p0_0 p0_1 _ w4 (fl [[b4], [b2], M]) (MS.fold (P := []) hpk) (hs_p0_0.sub hsb) hx
 refine x_call 57 #[] #[] [.agg #[.slice a_p0_0 (p0_0).length c_p0_0, Vi p0_1]] _ rfl rfl rfl rfl hcall ?_
 rintro v w8 ⟨rfl, he8⟩
 clear hcall hx
 refine inl1 ?_
 have hst := Stp.ext (ls := [[b4], [b2], M]) he8
 replace hs_p0_0 := hs_p0_0.step hst
 replace hb2 := he8.box hb2 nn
 replace hb4 := he8.box hb4 nn
 replace hms := hms.ev he8
 replace hev := hev.ext he8
 clear hpk hsb hsb0
 refine x_u 1 [(4, Vi x7)] ?_
 refine x_ek ?_
 refine c_sp ?_
 refine x_u 2 [(13, Vi x7), (14, .bool (x7 != 0))] ?_
 refine x_ek ?_
 refine c_if (x7 != 0) rfl h (fun h => ?_) (fun h => ?_)
 · refine c_sp ?_
   refine x_build (vs := []) (.agg #[Vi 0, .slice none 0 0]) rfl rfl rfl (fun _ _ => by kernel_rfl) ?_
   refine x_u 1 [(16, Vi x7)] ?_
   obtain ⟨w9, hr9, hb9, he9⟩ := store_boxagg 0 [Vi 0, .slice none 0 0] #[Vi 0, .slice none 0 0] tagg27 hb4 rfl rfl rfl
   refine x_store w9 (xv := Vp b4 0) (yv := .agg #[Vi 0, .slice none 0 0]) rfl rfl rfl rfl hr9 ?_
   refine inl1 ?_
   have hst := Stp.ev' (ls := [[b4], [b2], M]) he9 (mem_flat 0 rfl)
   replace hs_p0_0 := hs_p0_0.step hst
   replace hb2 := he9.box hb2 (hms.apart 1 0 rfl rfl rfl _ mem1)
   replace hms := hms.ev he9
   replace hev := hev.then he9 (fun b hb => .inr (hfr.at 0 rfl b hb))
   replace hb4 := hb9
   refine x_u 1 [(3, Vi x7)] ?_
   refine x_ek ?_
   refine c_ret ?_
   refine k_then_ret ?_
   refine r_ret (r_vals [.agg #[Vi 0, .slice none 0 0], Vi x7] ⟨⟨_, rfl, loadVar_of_reads (reads_boxagg (Mo := []) 0 [Vi 0, .slice none 0 0] tagg27 hb4 nn rfl)⟩, rfl, trivial⟩ ?_)
   have hx := some_inj h
   subst hx
   have hmr : MS w9 [blk none, M] := hms.pick [none, some 2] _ rfl
   have hsu : ∀ x ∈ fl [blk none, M], x ∈ fl [[b4], [b2], M] := pick_sub [none, some 2] _ rfl
   have hfe : FR w.heap.size [blk none] := hfr.pick [none] _ rfl
   exact ⟨none, 0, rfl, hev, hmr, hfe, OwnS.nil _ _ _ _⟩
 refine c_skip ?_
 refine k_then ?_
 refine c_sp ?_
 refine x_fieldAddr (xv := Vp b2 0) (Vp b2 0) rfl rfl rfl (reads_field tfld25_0 _ _) ?_
 refine x_load (xv := Vp b2 0) (.slice a_p0_0 (p0_0).length c_p0_0) rfl rfl rfl (reads_box tcell23 hb2 nn 0 _ rfl) ?_
 refine x_len (vs := [.slice a_p0_0 (p0_0).length c_p0_0]) (Vi ((p0_0).length : Int)) rfl rfl rfl (reads_len tsl23 _ _ _ _ _) ?_
 have hg := guard_l h
 replace h := guard_r h
 obtain ⟨a10, c10, w10, hr10, he10, hn10, hw10⟩ := own_make (e := (eInt .i64)) tel22 w8 ((p0_0).length : Int) hg.1 hg.2 0 (fun _ _ => rfl)
 refine x_makeSlice _ w10 (xv := Vi ((p0_0).length : Int)) (yv := Vi ((p0_0).length : Int)) rfl rfl rfl rfl hr10 ?_
 refine inl1 ?_
 have hst := Stp.push (ls := [[b4], [b2], M]) (l := blk a10) he10 (fun _ h => by cases h) (fun b hb => (hn10 b hb).1)
 replace hs_p0_0 := hs_p0_0.step hst
 replace hb2 := he10.box hb2 nn
 replace hb4 := he10.box hb4 nn
 replace hms := hms.push he10 hn10
 replace hfr := hfr.push (fun b hb => Nat.le_trans hev.size (hn10 b hb).1)
 replace hev := hev.ext he10
 have ho10 := hw10 (fl [blk a10, [b4], [b2], M])
 clear hw10
 refine x_u 1 [(5, .slice a10 ((List.replicate (Int.toNat ((p0_0).length : Int)) 0 : List Int)).length c10)] ?_
 refine x_ek ?_
 refine c_norm [(1, Vp b2 0), (2, Vp b4 0), (5, .slice a10 ((List.replicate (Int.toNat ((p0_0).length : Int)) 0 : List Int)).length c10)] ⟨rfl, rfl, rfl, trivial⟩ (fun J => ?_)
 refine c_sp ?_
 refine x_u 1 [(6, Vi 0)] ?_
 refine x_ek ?_
 refine c_seq ?_
 refine c_sp ?_
 refine x_u 1 [(7, Vi 0)] ?_
 refine x_ek ?_
 refine c_block ?_
 have hpk : MS w10 [[b2], [b4], blk a10, M] := hms.pick [some 2, some 1, some 0, some 3] _ rfl
 have hsu : ∀ x ∈ fl [[b2], [b4], blk a10, M], x ∈ fl [blk a10, [b4], [b2], M] := pick_sub [some 2, some 1, some 0, some 3] _ rfl
 replace hs_p0_0 := hs_p0_0.sub hsu
 replace ho10 := ho10.sub hsu
 replace hms := hpk
 replace hfr : FR w.heap.size [[b2], [b4], blk a10] := hfr.pick [some 2, some 1, some 0] _ rfl
 clear hpk hsu
 obtain ⟨d13, hd13, h13⟩ := bind_some h
 obtain ⟨m13, hd13⟩ := loop_some hd13
 refine c_loop (loop_rule hmx (σ := Nat × (List Int) × Int × Int) (fun s => match s with | (_, d11_l13, most_s6_l13, b_s7_l13) => [(1, Vp b2 0), (2, Vp b4 0), (5, .slice a10 (d11_l13).length c10), (6, Vi most_s6_l13), (7, Vi b_s7_l13)]) (fun s w' => match s with | (m, d11_l13, most_s6_l13, b_s7_l13) => loopN (r13_Least_L13 p0_0 p0_1) m (d11_l13, most_s6_l13, b_s7_l13) = some d13 ∧ Ev [] w w' ∧ MS w' [[b2], [b4], blk a10, M] ∧ FR w.heap.size [[b2], [b4], blk a10] ∧ SlR (eIt4) w' (fl [[b2], [b4], blk a10, M]) a_p0_0 c_p0_0 p0_0 ∧ w'.heap[b2]? = some (.cells #[.slice a_p0_0 (p0_0).length c_p0_0, Vi p0_1] 25 (0, 0)) ∧ w'.heap[b4]? = some (.cells #[Vi 0, .slice none 0 0] 27 (0, 0)) ∧ OwnS (eInt .i64) 3 w' (fl [[b2], [b4], blk a10, M]) a10 c10 d11_l13) (fun s => s.1) (m13, (List.replicate (Int.toNat ((p0_0).length : Int)) 0 : List Int), 0, 0) ⟨rfl, rfl, rfl, rfl, rfl, trivial⟩ ⟨hd13, hev, hms, hfr, hs_p0_0, hb2, hb4, ho10⟩ ?_)
 rintro ⟨m13, d11_l13, most_s6_l13, b_s7_l13⟩ J wl13 ⟨hn13, hev, hms, hfr, hs_p0_0, hb2, hb4, ho10⟩
 rcases m13 with _ | m13
 · exact (loopN_zero hn13).elim
 obtain ⟨t13, h, hn13⟩ := bind_some hn13
 refine c_seq ?_
 refine c_sp ?_
 refine x_u 2 [(21, Vi b_s7_l13), (22, .bool (decide (b_s7_l13 < 32)))] ?_
 refine x_ek ?_
 refine c_norm [(1, Vp b2 0), (2, Vp b4 0), (5, .slice a10 (d11_l13).length c10), (6, Vi most_s6_l13), (7, Vi b_s7_l13), (22, .bool (decide (b_s7_l13 < 32)))] ⟨rfl, rfl, rfl, rfl, rfl, rfl, trivial⟩ (fun J => ?_)
 refine c_if (decide (b_s7_l13 < 32)) rfl h (fun h => ?_) (fun h => ?_)
 · refine c_skip ?_
   refine k_then ?_
   refine c_seq ?_
   refine c_block ?_
   refine c_sp ?_
   refine x_u 1 [(8, Vi 0)] ?_
   refine x_ek ?_
   refine c_block ?_
   obtain ⟨d15, hd15, h15⟩ := bind_some h
   obtain ⟨m15, hd15⟩ := loop_some hd15
   refine c_loop (loop_rule hmx (σ := Nat × (List Int) × Int × Int) (fun s => match s with | (_, d11_l15, most_s6_l15, y_s8_l15) => [(1, Vp b2 0), (2, Vp b4 0), (5, .slice a10 (d11_l15).length c10), (6, Vi most_s6_l15), (7, Vi b_s7_l13), (8, Vi y_s8_l15)]) (fun s w' => match s with | (m, d11_l15, most_s6_l15, y_s8_l15) => loopN (r13_Least_L15 p0_0 p0_1 b_s7_l13) m (d11_l15, most_s6_l15, y_s8_l15) = some d15 ∧ Ev [] w w' ∧ MS w' [[b2], [b4], blk a10, M] ∧ FR w.heap.size [[b2], [b4], blk a10] ∧ SlR (eIt4) w' (fl [[b2], [b4], blk a10, M]) a_p0_0 c_p0_0 p0_0 ∧ w'.heap[b2]? = some (.cells #[.slice a_p0_0 (p0_0).length c_p0_0, Vi p0_1] 25 (0, 0)) ∧ w'.heap[b4]? = some (.cells #[Vi 0, .slice none 0 0] 27 (0, 0)) ∧ OwnS (eInt .i64) 3 w' (fl [[b2], [b4], blk a10, M]) a10 c10 d11_l15) (fun s => s.1) (m15, d11_l13, most_s6_l13, 0) ⟨rfl, rfl, rfl, rfl, rfl, rfl, trivial⟩ ⟨hd15, hev, hms, hfr, hs_p0_0, hb2, hb4, ho10⟩ ?_)
   rintro ⟨m15, d11_l15, most_s6_l15, y_s8_l15⟩ J wl15 ⟨hn15, hev, hms, hfr, hs_p0_0, hb2, hb4, ho10⟩
   rcases m15 with _ | m15
   · exact (loopN_zero hn15).elim
   obtain ⟨t15, h, hn15⟩ := bind_some hn15
   refine c_seq ?_
   refine c_sp ?_
   refine x_u 2 [(25, Vi y_s8_l15), (26, .slice a10 (d11_l15).length c10)] ?_
   refine x_len (vs := [.slice a10 (d11_l15).length c10]) (Vi ((d11_l15).length : Int)) rfl rfl rfl (reads_len tsl22 _ _ _ _ _) ?_
   refine x_u 1 [(28, .bool (decide (y_s8_l15 < ((d11_l15).length : Int))))] ?_
   refine x_ek ?_
   refine c_norm [(1, Vp b2 0), (2, Vp b4 0), (5, .slice a10 (d11_l15).length c10), (6, Vi most_s6_l15), (7, Vi b_s7_l13), (8, Vi y_s8_l15), (28, .bool (decide (y_s8_l15 < ((d11_l15).length : Int))))] ⟨rfl, rfl, rfl, rfl, rfl, rfl, rfl, trivial⟩ (fun J => ?_)
   refine c_if (decide (y_s8_l15 < ((d11_l15).length : Int))) rfl h (fun h => ?_) (fun h => ?_)
   · refine c_skip ?_
     refine k_then ?_
     refine c_seq ?_
     refine c_block ?_
     refine c_seq ?_
     refine c_sp ?_
     refine x_fieldAddr (xv := Vp b2 0) (Vp b2 0) rfl rfl rfl (reads_field tfld25_0 _ _) ?_
     refine x_load (xv := Vp b2 0) (.slice a_p0_0 (p0_0).length c_p0_0) rfl rfl rfl (reads_box tcell23 hb2 nn 0 _ rfl) ?_
     refine x_u 1 [(33, Vi y_s8_l15)] ?_
     obtain ⟨x18, hx18, h⟩ := bind_some h
     obtain ⟨ad18, cs18, hr18, hc18, hR⟩ := reads_index (Mo := []) tsl23 hs_p0_0 hx18
     obtain ⟨_, _, rfl, rfl, ⟨_, _, rfl, rfl, ⟨_, _, rfl, rfl, rfl⟩⟩⟩ := hR
     refine x_indexAddr (xv := .slice a_p0_0 (p0_0).length c_p0_0) (yv := Vi y_s8_l15) (.pointer (some ad18)) rfl rfl rfl rfl hr18 ?_
     refine x_fieldAddr (xv := .pointer (some ad18)) (.pointer (some (Addr.add ad18 1))) rfl rfl rfl (reads_field tfld79_1 _ _) ?_
     refine x_load (xv := .pointer (some (Addr.add ad18 1))) (Vi x18.2.1) rfl rfl rfl (reads_cell tcell3 hc18 (fun _ h => by cases h) 1 _ rfl) ?_
     refine x_u 2 [(37, Vi b_s7_l13), (38, .bool (x18.2.1 != b_s7_l13))] ?_
     refine x_ek ?_
     refine c_if (x18.2.1 != b_s7_l13) rfl h (fun h => ?_) (fun h => ?_)
     · refine c_exit ?_
       refine k_then_exit ?_
       refine k_block_in ?_
       refine k_then ?_
       refine c_plain ?_
       refine x_u 3 [(29, Vi y_s8_l15), (30, Vi (IntKind.i64.wrap (y_s8_l15 + 1))), (8, Vi (IntKind.i64.wrap (y_s8_l15 + 1)))] ?_
       refine x_end rfl ?_
       have hx := some_inj h
       subst hx
       exact k_then ⟨(m15, d11_l15, most_s6_l15, IntKind.i64.wrap (y_s8_l15 + 1)), ⟨rfl, rfl, rfl, rfl, rfl, rfl, trivial⟩, ⟨hn15, hev, hms, hfr, hs_p0_0, hb2, hb4, ho10⟩, Nat.lt_succ_self _⟩
     refine c_skip ?_
     refine k_then ?_
     refine c_seq ?_
     refine c_drawn [] [(0, false), (1, false), (2, false), (4, false), (5, false), (6, false), (7, false), (8, false), (9, false), (10, false), (11, false), (3, false), (12, true), (13, false), (14, false), (15, false), (16, false), (17, false)] _ (by kernel_rfl) rfl ?_
     have hst := Stp.ext (ls := [[b2], [b4], blk a10, M]) (Ev.drew wl15)
     replace hb2 := (Ev.drew wl15).box hb2 nn
     replace hs_p0_0 := hs_p0_0.step hst
     replace hb4 := (Ev.drew wl15).box hb4 nn
     replace ho10 := ho10.step hst (Ev.drew wl15) nn2
     replace hms := hms.ev (Ev.drew wl15)
     replace hev := hev.ext (Ev.drew wl15)
     refine x_load (xv := Vp b2 0) (.agg #[.slice a_p0_0 (p0_0).length c_p0_0, Vi p0_1]) rfl rfl rfl (reads_boxagg 0 [.slice a_p0_0 (p0_0).length c_p0_0, Vi p0_1] tagg25 hb2 nn rfl) ?_
     refine x_u 2 [(41, .slice a10 (d11_l15).length c10), (42, Vi y_s8_l15)] ?_
     refine x_fieldAddr (xv := Vp b2 0) (Vp b2 0) rfl rfl rfl (reads_field tfld25_0 _ _) ?_
     refine x_load (xv := Vp b2 0) (.slice a_p0_0 (p0_0).length c_p0_0) rfl rfl rfl (reads_box tcell23 hb2 nn 0 _ rfl) ?_
     refine x_u 1 [(46, Vi y_s8_l15)] ?_
     obtain ⟨x20, hx20, h⟩ := bind_some h
     obtain ⟨ad20, cs20, hr20, hc20, hR⟩ := reads_index (Mo := []) tsl23 hs_p0_0 hx20
     obtain ⟨_, _, rfl, rfl, ⟨_, _, rfl, rfl, ⟨_, _, rfl, rfl, rfl⟩⟩⟩ := hR
     refine x_indexAddr (xv := .slice a_p0_0 (p0_0).length c_p0_0) (yv := Vi y_s8_l15) (.pointer (some ad20)) rfl rfl rfl rfl hr20 ?_
     refine x_fieldAddr (xv := .pointer (some ad20)) (.pointer (some (Addr.add ad20 2))) rfl rfl rfl (reads_field tfld79_2 _ _) ?_
     refine x_load (xv := .pointer (some (Addr.add ad20 2))) (Vi x20.2.2.1) rfl rfl rfl (reads_cell tcell3 hc20 (fun _ h => by cases h) 2 _ rfl) ?_
     refine x_fieldAddr (xv := Vp b2 0) (Vp b2 1) rfl rfl rfl (reads_field tfld25_1 _ _) ?_
     refine x_load (xv := Vp b2 1) (Vi p0_1) rfl rfl rfl (reads_box tcell3 hb2 nn 1 _ rfl) ?_
     obtain ⟨x22, hx, h⟩ := bind_some h
     have hpk : MS (wl15).drew ([] ++ [[b2], [b4], M]) := hms.pick [some 0, some 1, some 3] _ rfl
     have hsb0 : ∀ x ∈ fl ([] ++ [[b2], [b4], M]), x ∈ fl [[b2], [b4], blk a10, M] := pick_sub [some 0, some 1, some 3] _ rfl
     have hsb : ∀ x ∈ fl ([] ++ [(fl [[b2], [b4], M])]), x ∈ fl [[b2], [b4], blk a10, M] := fun x hx => hsb0 x (fl_unfold x hx)
     have hcall := r11_Base_w a_p0_0 c_p0_0 p0_0 p0_1 a10 c10 d11_l15 y_s8_l15 _ (wl15).drew (fl [[b2], [b4], M]) (MS.fold (P := []) hpk) (hs_p0_0.sub hsb) (ho10.ro hsb (fun b hb hb2 => pick_out hms 2 rfl [some 0, some 1, some 3] ([] ++ [[b2], [b4], M]) rfl rfl b hb (fl_unfold b hb2))) hx
     refine x_call 59 #[] #[] [.agg #[.slice a_p0_0 (p0_0).length c_p0_0, Vi p0_1], .slice a10 (d11_l15).length c10, Vi y_s8_l15] _ rfl rfl rfl rfl hcall ?_
     rintro v w23 ⟨rfl, he23⟩
     clear hcall hx
     refine ⟨.inr he23, ?_⟩
     have hst := Stp.ext (ls := [[b2], [b4], blk a10, M]) he23
     replace hb2 := he23.box hb2 nn
     replace hs_p0_0 := hs_p0_0.step hst
     replace hb4 := he23.box hb4 nn
     replace ho10 := ho10.step hst he23 nn2
     replace hc20 := hc20.step hst
     replace hms := hms.ev he23
     replace hev := hev.ext he23
     clear hpk hsb hsb0
     obtain ⟨x24, hx, h⟩ := bind_some h
     have hcall := r12_Next_w x22 x20.2.2.1 p0_1 _ w23 hx
     refine x_call 58 #[] #[] [Vi x22, Vi x20.2.2.1, Vi p0_1] _ rfl rfl rfl rfl hcall ?_
     rintro v w25 ⟨rfl, he25⟩
     clear hcall hx
     refine inl1 ?_
     have hst := Stp.ext (ls := [[b2], [b4], blk a10, M]) he25
     replace hb2 := he25.box hb2 nn
     replace hs_p0_0 := hs_p0_0.step hst
     replace hb4 := he25.box hb4 nn
     replace ho10 := ho10.step hst he25 nn2
     replace hc20 := hc20.step hst
     replace hms := hms.ev he25
     replace hev := hev.ext he25
     refine x_u 5 [(39, .tuple #[Vi x24.1, Vi x24.2]), (53, Vi x24.1), (54, Vi x24.2), (9, Vi x24.1), (10, Vi x24.2)] ?_
     refine x_ek ?_
     refine c_norm [(1, Vp b2 0), (2, Vp b4 0), (5, .slice a10 (d11_l15).length c10), (6, Vi most_s6_l15), (7, Vi b_s7_l13), (8, Vi y_s8_l15), (9, Vi x24.1), (10, Vi x24.2)] ⟨rfl, rfl, rfl, rfl, rfl, rfl, rfl, rfl, trivial⟩ (fun J => ?_)
     refine c_seq ?_
     refine c_sp ?_
     refine x_u 2 [(55, Vi x24.2), (56, .bool (x24.2 != 0))] ?_
     refine x_ek ?_
     refine c_if (x24.2 != 0) rfl h (fun h => ?_) (fun h => ?_)
     · refine c_sp ?_
       refine x_build (vs := []) (.agg #[Vi 0, .slice none 0 0]) rfl rfl rfl (fun _ _ => by kernel_rfl) ?_
       refine x_u 1 [(58, Vi x24.2)] ?_
       obtain ⟨w27, hr27, hb27, he27⟩ := store_boxagg 0 [Vi 0, .slice none 0 0] #[Vi 0, .slice none 0 0] tagg27 hb4 rfl rfl rfl
       refine x_store w27 (xv := Vp b4 0) (yv := .agg #[Vi 0, .slice none 0 0]) rfl rfl rfl rfl hr27 ?_
       refine inl1 ?_
       have hst := Stp.ev' (ls := [[b2], [b4], blk a10, M]) he27 (mem_flat 1 rfl)
       replace hb2 := he27.box hb2 (hms.apart 0 1 rfl rfl rfl _ mem1)
       replace hs_p0_0 := hs_p0_0.step hst
       replace ho10 := ho10.step hst he27 (hms.apart 2 1 rfl rfl rfl)
       replace hms := hms.ev he27
       replace hev := hev.then he27 (fun b hb => .inr (hfr.at 1 rfl b hb))
       replace hb4 := hb27
       refine x_u 1 [(3, Vi x24.2)] ?_
       refine x_ek ?_
       refine c_ret ?_
       refine k_then_ret ?_
       refine k_block_ret ?_
       refine k_then_ret ?_
       have hx := some_inj h
       subst hx
       have hy := some_inj hn15
       subst hy
       replace h := h15
       refine k_then_ret ?_
       refine k_block_ret ?_
       refine k_block_ret ?_
       refine k_then_ret ?_
       have hx := some_inj h
       subst hx
       have hy := some_inj hn13
       subst hy
       replace h := h13
       refine k_then_ret ?_
       refine k_block_ret ?_
       refine k_then_ret ?_
       refine r_ret (r_vals [.agg #[Vi 0, .slice none 0 0], Vi x24.2] ⟨⟨_, rfl, loadVar_of_reads (reads_boxagg (Mo := []) 0 [Vi 0, .slice none 0 0] tagg27 hb4 nn rfl)⟩, rfl, trivial⟩ ?_)
       have hx := some_inj h
       subst hx
       have hmr : MS w27 [blk none, M] := hms.pick [none, some 3] _ rfl
       have hsu : ∀ x ∈ fl [blk none, M], x ∈ fl [[b2], [b4], blk a10, M] := pick_sub [none, some 3] _ rfl
       have hfe : FR w.heap.size [blk none] := hfr.pick [none] _ rfl
       exact ⟨none, 0, rfl, hev, hmr, hfe, OwnS.nil _ _ _ _⟩
     refine c_skip ?_
     refine k_then ?_
     refine c_sp ?_
     refine x_u 3 [(59, .slice a10 (d11_l15).length c10), (60, Vi y_s8_l15), (61, Vi x24.1)] ?_
     obtain ⟨x28, hx28, h⟩ := bind_some h
     obtain ⟨g28, cs28, ha28, hr28, hc28, hR⟩ := own_index (Mo := []) tsl22 ho10 hx28
     obtain rfl := hR
     refine x_indexAddr (xv := .slice a10 (d11_l15).length c10) (yv := Vi y_s8_l15) (.pointer (some ⟨g28, (Int.toNat y_s8_l15) * (eInt .i64).n, none⟩)) rfl rfl rfl rfl hr28 ?_
     obtain ⟨w30, hr30, he30, ho30⟩ := own_storeE ha28 (y := x24.1) 0 (Vi x24.1) tcell3 ho10 (mem_flat 2 rfl) hx28 rfl rfl (fun _ _ _ hR => set_int hR)
     refine x_store w30 (xv := .pointer (some ⟨g28, (Int.toNat y_s8_l15) * (eInt .i64).n, none⟩)) (yv := Vi x24.1) rfl rfl rfl rfl hr30 ?_
     refine inl1 ?_
     have hst := Stp.ev' (ls := [[b2], [b4], blk a10, M]) he30 (mem_flat 2 rfl)
     replace hb2 := he30.box hb2 (hms.apart 0 2 rfl rfl rfl _ mem1)
     replace hs_p0_0 := hs_p0_0.step hst
     replace hb4 := he30.box hb4 (hms.apart 1 2 rfl rfl rfl _ mem1)
     replace hms := hms.ev he30
     replace hev := hev.then he30 (fun b hb => .inr (hfr.at 2 rfl b hb))
     replace ho10 := ho30
     have hsl : (Value.slice a10 (d11_l15).length c10) = (Value.slice a10 ((d11_l15.set (Int.toNat y_s8_l15) x24.1)).length c10) := by first | (rw [List.length_set]; done) | simp only [List.length_set]
     try rw [hsl]
     clear hsl
     refine x_ek ?_
     refine c_plain ?_
     refine x_u 2 [(63, Vi most_s6_l15), (64, Vi x24.1)] ?_
     refine x_max (vs := [Vi most_s6_l15, Vi x24.1]) (Vi (if x24.1 > most_s6_l15 then x24.1 else most_s6_l15)) rfl rfl rfl (fun _ _ => rfl) ?_
     refine x_u 1 [(6, Vi (if x24.1 > most_s6_l15 then x24.1 else most_s6_l15))] ?_
     refine x_end rfl ?_
     refine k_block ?_
     refine k_then ?_
     refine c_plain ?_
     refine x_u 3 [(29, Vi y_s8_l15), (30, Vi (IntKind.i64.wrap (y_s8_l15 + 1))), (8, Vi (IntKind.i64.wrap (y_s8_l15 + 1)))] ?_
     refine x_end rfl ?_
     have hx := some_inj h
     subst hx
     exact k_then ⟨(m15, (d11_l15.set (Int.toNat y_s8_l15) x24.1), if x24.1 > most_s6_l15 then x24.1 else most_s6_l15, IntKind.i64.wrap (y_s8_l15 + 1)), ⟨rfl, rfl, rfl, rfl, rfl, rfl, trivial⟩, ⟨hn15, hev, hms, hfr, hs_p0_0, hb2, hb4, ho10⟩, Nat.lt_succ_self _⟩
   refine c_exit ?_
   refine k_then_exit ?_
   have hx := some_inj h
   subst hx
   have hy := some_inj hn15
   subst hy
   replace h := h15
   refine k_then_exit ?_
   refine k_block_in ?_
   refine k_block ?_
   refine k_then ?_
   refine c_norm [(1, Vp b2 0), (2, Vp b4 0), (5, .slice a10 (d11_l15).length c10), (6, Vi most_s6_l15), (7, Vi b_s7_l13)] ⟨rfl, rfl, rfl, rfl, rfl, trivial⟩ (fun J => ?_)
   refine c_plain ?_
   refine x_u 3 [(23, Vi b_s7_l13), (24, Vi (IntKind.i64.wrap (b_s7_l13 + 1))), (7, Vi (IntKind.i64.wrap (b_s7_l13 + 1)))] ?_
   refine x_end rfl ?_
   have hx := some_inj h
   subst hx
   exact k_then ⟨(m13, d11_l15, most_s6_l15, IntKind.i64.wrap (b_s7_l13 + 1)), ⟨rfl, rfl, rfl, rfl, rfl, trivial⟩, ⟨hn13, hev, hms, hfr, hs_p0_0, hb2, hb4, ho10⟩, Nat.lt_succ_self _⟩
 refine c_exit ?_
 refine k_then_exit ?_
 have hx := some_inj h
 subst hx
 have hy := some_inj hn13
 subst hy
 replace h := h13
 refine k_then_exit ?_
 refine k_block_in ?_
 refine k_then ?_
 refine c_norm [(2, Vp b4 0), (5, .slice a10 (d11_l13).length c10), (6, Vi most_s6_l13)] ⟨rfl, rfl, rfl, trivial⟩ (fun J => ?_)
 refine c_sp ?_
 refine x_u 1 [(66, Vi most_s6_l13)] ?_
 obtain ⟨x31, hx, h⟩ := bind_some h
 have hcall := r12_Long_w most_s6_l13 _ wl13 hx
 refine x_call 44 #[] #[] [Vi most_s6_l13] _ rfl rfl rfl rfl hcall ?_
 rintro v w32 ⟨rfl, he32⟩
 clear hcall hx
 refine inl1 ?_
 have hst := Stp.ext (ls := [[b2], [b4], blk a10, M]) he32
 replace hb2 := he32.box hb2 nn
 replace hs_p0_0 := hs_p0_0.step hst
 replace hb4 := he32.box hb4 nn
 replace ho10 := ho10.step hst he32 nn2
 replace hms := hms.ev he32
 replace hev := hev.ext he32
 refine x_u 1 [(68, .slice a10 (d11_l13).length c10)] ?_
 refine x_build (vs := [(0, Vi x31), (1, .slice a10 (d11_l13).length c10)]) (.agg #[Vi x31, .slice a10 (d11_l13).length c10]) rfl rfl rfl (fun _ _ => by kernel_rfl) ?_
 obtain ⟨w33, hr33, hb33, he33⟩ := store_boxagg 0 [Vi x31, .slice a10 (d11_l13).length c10] #[Vi x31, .slice a10 (d11_l13).length c10] tagg27 hb4 rfl rfl rfl
 refine x_store w33 (xv := Vp b4 0) (yv := .agg #[Vi x31, .slice a10 (d11_l13).length c10]) rfl rfl rfl rfl hr33 ?_
 refine inl1 ?_
 have hst := Stp.ev' (ls := [[b2], [b4], blk a10, M]) he33 (mem_flat 1 rfl)
 replace hb2 := he33.box hb2 (hms.apart 0 1 rfl rfl rfl _ mem1)
 replace hs_p0_0 := hs_p0_0.step hst
 replace ho10 := ho10.step hst he33 (hms.apart 2 1 rfl rfl rfl)
 replace hms := hms.ev he33
 replace hev := hev.then he33 (fun b hb => .inr (hfr.at 1 rfl b hb))
 replace hb4 := hb33
 refine x_u 1 [(3, Vi 0)] ?_
 refine x_ek ?_
 refine c_ret ?_
 refine r_ret (r_vals [.agg #[Vi x31, .slice a10 (d11_l13).length c10], Vi 0] ⟨⟨_, rfl, loadVar_of_reads (reads_boxagg (Mo := []) 0 [Vi x31, .slice a10 (d11_l13).length c10] tagg27 hb4 nn rfl)⟩, rfl, trivial⟩ ?_)
 have hx := some_inj h
 subst hx
 have hmr : MS w33 [blk a10, M] := hms.pick [some 2, some 3] _ rfl
 have hsu : ∀ x ∈ fl [blk a10, M], x ∈ fl [[b2], [b4], blk a10, M] := pick_sub [some 2, some 3] _ rfl
 have hfe : FR w.heap.size [blk a10] := hfr.pick [some 2] _ rfl
 exact ⟨a10, c10, rfl, hev, hmr, hfe, ho10.sub hsu⟩
def r13_Witness (p0_0 : List (Int × Int × Int × Int)) (p0_1 : Int) : Option ((List Int) × Int) :=
((r13_Least p0_0 p0_1).bind fun x4 =>
(if (x4.2 != 0) = true then
some ([], x4.2)
else
((r11_Back p0_0 p0_1 x4.1.2).bind fun x11 =>
some (x11, 0))))

theorem r13_Witness_w (a_p0_0 : Option Addr) (c_p0_0 : Nat) (p0_0 : List (Int × Int × Int × Int)) (p0_1 : Int) (r : (List Int) × Int) (w : World) (M : List Nat) (hms : MS w [M]) (hs_p0_0 : SlR (eIt4) w (fl [M]) a_p0_0 c_p0_0 p0_0) (h : r13_Witness p0_0 p0_1 = some r) : CallVC Try.prog 34 [.agg #[Vl a_p0_0 p0_0 c_p0_0, Vi p0_1]] w fun v w' => ∃ (a0' : Option Addr), ∃ (c0' : Nat), v = .tuple #[Vl a0' r.1 c0', Vi r.2] ∧ Ev [] w w' ∧ MS w' [blk a0', M] ∧ FR w.heap.size [blk a0'] ∧ OwnS (eInt .i64) 3 w' (fl [blk a0', M]) a0' c0' r.1 := by
 refine calls_vc hmx Try.func34 (by kernel_rfl) rfl (rs := [.tmp 2, .tmp 3]) rfl (by kernel_rfl) (args := [.agg #[Vl a_p0_0 p0_0 c_p0_0, Vi p0_1]]) rfl ?_
 have hev : Ev [] w w := Ev.refl _ _
 have hfr : FR w.heap.size [] := FR.nil _
 refine c_sp ?_
 refine x_box (xv := .agg #[Vl a_p0_0 p0_0 c_p0_0, Vi p0_1]) rfl rfl rfl (fun b2 w2 hq2 hb2 he2 hz2 => ?_)
 replace hb2 : w2.heap[b2]? = some (.cells #[Vl a_p0_0 p0_0 c_p0_0, Vi p0_1] 25 (0, 0)) := hb2
 refine inl1 ?_
 have hst := Stp.box (ls := [M]) he2 hq2
 replace hs_p0_0 := hs_p0_0.step hst
 replace hms := hms.box he2 hq2 hb2
 replace hfr := hfr.box hev.size hq2
 replace hev := hev.ext he2
 refine x_u 2 [(2, .slice none 0 0), (3, Vi 0)] ?_
 refine x_ek ?_
 refine c_sp ?_
 refine x_load (xv := Vp b2 0) (.agg #[Vl a_p0_0 p0_0 c_p0_0, Vi p0_1]) rfl rfl rfl (reads_boxagg 0 [Vl a_p0_0 p0_0 c_p0_0, Vi p0_1] tagg25 hb2 nn rfl) ?_
 obtain ⟨x4, hx, h⟩ := bind_some h
 have hpk : MS w2 ([] ++ [[b2], M]) := hms.pick [some 0, some 1] _ rfl
 have hsb0 : ∀ x ∈ fl ([] ++ [[b2], M]), x ∈ fl [[b2], M] := pick_sub [some 0, some 1] _ rfl
 have hsb : ∀ x ∈ fl ([] ++ [(fl [[b2], M])]), x ∈ fl [[b2], M] := fun x hx => hsb0 x (fl_unfold x hx)
 have hcall := r13_Least_w a_p0_0 c_p0_0 p0_0 p0_1 _ w2 (fl [[b2], M]) (MS.fold (P := []) hpk) (hs_p0_0.sub hsb) hx
 refine x_call 33 #[] #[] [.agg #[Vl a_p0_0 p0_0 c_p0_0, Vi p0_1]] _ rfl rfl rfl rfl hcall ?_
 rintro v w5 ⟨a0_5, c0_5, rfl, he5, hmn5, hfn5, hf5_1⟩
 clear hcall hx
 refine inl1 ?_
 have hpk2 : MS w2 ([] ++ [[b2], M]) := hms.pick [some 0, some 1] _ rfl
 have hsb2 : ∀ x ∈ fl ([] ++ [[b2], M]), x ∈ fl [[b2], M] := pick_sub [some 0, some 1] _ rfl
 have hst0 := Stp.call (LS := [[b2], M]) (res := [blk a0_5]) (par := []) (R := [[b2], M]) he5 (fun b hb => hsb2 b (fl_left' (P := []) b hb)) hfn5 (NP.init _ _) (fun x hx => hsb2 x (fl_right' (P := []) x hx))
 have hsn : ∀ x ∈ fl [blk a0_5, [b2], M], x ∈ fl ([blk a0_5] ++ ([] ++ [[b2], M])) := pick_sub [some 0, some 1, some 2] _ rfl
 have hst := hst0.res hsn
 replace hs_p0_0 := hs_p0_0.step hst
 replace hb2 := he5.box hb2 ((MS.outs (P := []) hpk2 0 rfl) _ mem1)
 replace hms : MS w5 [blk a0_5, [b2], M] := (MS.call (P := []) (R := [[b2], M]) (res := [blk a0_5]) (par := []) hpk2 he5 hmn5 hfn5 (NP.init _ _)).pick [some 0, some 1, some 2] _ rfl
 have hfr2 : FR w.heap.size [blk a0_5, [b2]] := (FR.cons (fun b hb => Nat.le_trans hev.size (hfn5.at 0 rfl b hb)) (FR.cons (hfr.at 0 rfl) (FR.nil _)))
 replace hev := hev.ext he5
 replace hfr := hfr2
 clear hfr2
 replace hf5_1 := OwnS.plain (M' := fl [blk a0_5, [b2], M]) (plain_int _) hf5_1
 clear hpk hsb hsb0 hpk2 hsb2 hst0 hsn hst
 refine x_u 3 [(6, .tuple #[.agg #[Vi x4.1.1, Vl a0_5 x4.1.2 c0_5], Vi x4.2]), (9, .agg #[Vi x4.1.1, Vl a0_5 x4.1.2 c0_5]), (10, Vi x4.2)] ?_
 refine x_alloc (z := .agg #[Vi 0, .slice none 0 0]) rfl rfl (by kernel_rfl) (fun b7 w7 hq7 hb7 he7 hz7 => ?_)
 replace hb7 : w7.heap[b7]? = some (.cells #[Vi 0, .slice none 0 0] 27 (0, 0)) := hb7
 refine inl1 ?_
 have hst := Stp.box (ls := [blk a0_5, [b2], M]) he7 hq7
 replace hs_p0_0 := hs_p0_0.step hst
 replace hb2 := he7.box hb2 nn
 replace hf5_1 := hf5_1.step hst he7 nn2
 replace hms := hms.box he7 hq7 hb7
 replace hfr := hfr.box hev.size hq7
 replace hev := hev.ext he7
 obtain ⟨w9, hr9, hb9, he9⟩ := store_boxagg 0 [Vi x4.1.1, Vl a0_5 x4.1.2 c0_5] #[Vi x4.1.1, Vl a0_5 x4.1.2 c0_5] tagg27 hb7 rfl rfl rfl
 refine x_store w9 (xv := Vp b7 0) (yv := .agg #[Vi x4.1.1, Vl a0_5 x4.1.2 c0_5]) rfl rfl rfl rfl hr9 ?_
 refine inl1 ?_
 have hst := Stp.ev' (ls := [[b7], blk a0_5, [b2], M]) he9 (mem_flat 0 rfl)
 replace hs_p0_0 := hs_p0_0.step hst
 replace hb2 := he9.box hb2 (hms.apart 2 0 rfl rfl rfl _ mem1)
 replace hf5_1 := hf5_1.step hst he9 (hms.apart 1 0 rfl rfl rfl)
 replace hms := hms.ev he9
 replace hev := hev.then he9 (fun b hb => .inr (hfr.at 0 rfl b hb))
 replace hb7 := hb9
 refine x_u 1 [(5, Vi x4.2)] ?_
 refine x_ek ?_
 refine c_seq ?_
 refine c_sp ?_
 refine x_u 2 [(11, Vi x4.2), (12, .bool (x4.2 != 0))] ?_
 refine x_ek ?_
 refine c_if (x4.2 != 0) rfl h (fun h => ?_) (fun h => ?_)
 · refine c_sp ?_
   refine x_u 3 [(13, Vi x4.2), (2, .slice none 0 0), (3, Vi x4.2)] ?_
   refine x_ek ?_
   refine c_norm [(2, .slice none 0 0), (3, Vi x4.2)] ⟨rfl, rfl, trivial⟩ (fun J => ?_)
   refine c_ret ?_
   refine k_then_ret ?_
   refine r_ret (r_vals [.slice none 0 0, Vi x4.2] ⟨rfl, rfl, trivial⟩ ?_)
   have hx := some_inj h
   subst hx
   have hmr : MS w9 [blk none, M] := hms.pick [none, some 3] _ rfl
   have hsu : ∀ x ∈ fl [blk none, M], x ∈ fl [[b7], blk a0_5, [b2], M] := pick_sub [none, some 3] _ rfl
   have hfe : FR w.heap.size [blk none] := hfr.pick [none] _ rfl
   exact ⟨none, 0, rfl, hev, hmr, hfe, OwnS.nil _ _ _ _⟩
 refine c_skip ?_
 refine k_then ?_
 refine c_sp ?_
 refine x_load (xv := Vp b2 0) (.agg #[Vl a_p0_0 p0_0 c_p0_0, Vi p0_1]) rfl rfl rfl (reads_boxagg 0 [Vl a_p0_0 p0_0 c_p0_0, Vi p0_1] tagg25 hb2 nn rfl) ?_
 refine x_fieldAddr (xv := Vp b7 0) (Vp b7 1) rfl rfl rfl (reads_field tfld27_1 _ _) ?_
 refine x_load (xv := Vp b7 1) (Vl a0_5 x4.1.2 c0_5) rfl rfl rfl (reads_box tcell22 hb7 nn 1 _ rfl) ?_
 obtain ⟨x11, hx, h⟩ := bind_some h
 have hpk : MS w9 ([] ++ [[b7], [b2], M]) := hms.pick [some 0, some 2, some 3] _ rfl
 have hsb0 : ∀ x ∈ fl ([] ++ [[b7], [b2], M]), x ∈ fl [[b7], blk a0_5, [b2], M] := pick_sub [some 0, some 2, some 3] _ rfl
 have hsb : ∀ x ∈ fl ([] ++ [(fl [[b7], [b2], M])]), x ∈ fl [[b7], blk a0_5, [b2], M] := fun x hx => hsb0 x (fl_unfold x hx)
 have hcall := r11_Back_w a_p0_0 c_p0_0 p0_0 p0_1 a0_5 c0_5 x4.1.2 _ w9 (fl [[b7], [b2], M]) (MS.fold (P := []) hpk) (hs_p0_0.sub hsb) (hf5_1.ro hsb (fun b hb hb2 => pick_out hms 1 rfl [some 0, some 2, some 3] ([] ++ [[b7], [b2], M]) rfl rfl b hb (fl_unfold b hb2))) hx
 refine x_call 60 #[] #[] [.agg #[Vl a_p0_0 p0_0 c_p0_0, Vi p0_1], Vl a0_5 x4.1.2 c0_5] _ rfl rfl rfl rfl hcall ?_
 rintro v w12 ⟨a0_12, c0_12, rfl, he12, hmn12, hfn12, hf12_1⟩
 clear hcall hx
 refine inl1 ?_
 have hpk2 : MS w9 ([] ++ [[b7], blk a0_5, [b2], M]) := hms.pick [some 0, some 1, some 2, some 3] _ rfl
 have hsb2 : ∀ x ∈ fl ([] ++ [[b7], blk a0_5, [b2], M]), x ∈ fl [[b7], blk a0_5, [b2], M] := pick_sub [some 0, some 1, some 2, some 3] _ rfl
 have hst0 := Stp.call (LS := [[b7], blk a0_5, [b2], M]) (res := [blk a0_12]) (par := []) (R := [[b7], blk a0_5, [b2], M]) he12 (fun b hb => hsb2 b (fl_left' (P := []) b hb)) hfn12 (NP.init _ _) (fun x hx => hsb2 x (fl_right' (P := []) x hx))
 have hsn : ∀ x ∈ fl [blk a0_12, [b7], blk a0_5, [b2], M], x ∈ fl ([blk a0_12] ++ ([] ++ [[b7], blk a0_5, [b2], M])) := pick_sub [some 0, some 1, some 2, some 3, some 4] _ rfl
 have hst := hst0.res hsn
 replace hs_p0_0 := hs_p0_0.step hst
 replace hb2 := he12.box hb2 ((MS.outs (P := []) hpk2 2 rfl) _ mem1)
 replace hf5_1 := hf5_1.step hst he12 (MS.outs (P := []) hpk2 1 rfl)
 replace hb7 := he12.box hb7 ((MS.outs (P := []) hpk2 0 rfl) _ mem1)
 replace hms : MS w12 [blk a0_12, [b7], blk a0_5, [b2], M] := (MS.call (P := []) (R := [[b7], blk a0_5, [b2], M]) (res := [blk a0_12]) (par := []) hpk2 he12 hmn12 hfn12 (NP.init _ _)).pick [some 0, some 1, some 2, some 3, some 4] _ rfl
 have hfr2 : FR w.heap.size [blk a0_12, [b7], blk a0_5, [b2]] := (FR.cons (fun b hb => Nat.le_trans hev.size (hfn12.at 0 rfl b hb)) (FR.cons (hfr.at 0 rfl) (FR.cons (hfr.at 1 rfl) (FR.cons (hfr.at 2 rfl) (FR.nil _)))))
 replace hev := hev.ext he12
 replace hfr := hfr2
 clear hfr2
 replace hf12_1 := OwnS.plain (M' := fl [blk a0_12, [b7], blk a0_5, [b2], M]) (plain_int _) hf12_1
 clear hpk hsb hsb0 hpk2 hsb2 hst0 hsn hst
 refine x_u 2 [(2, Vl a0_12 x11 c0_12), (3, Vi 0)] ?_
 refine x_ek ?_
 refine c_norm [(2, Vl a0_12 x11 c0_12), (3, Vi 0)] ⟨rfl, rfl, trivial⟩ (fun J => ?_)
 refine c_ret ?_
 refine r_ret (r_vals [Vl a0_12 x11 c0_12, Vi 0] ⟨rfl, rfl, trivial⟩ ?_)
 have hx := some_inj h
 subst hx
 have hmr : MS w12 [blk a0_12, M] := hms.pick [some 0, some 4] _ rfl
 have hsu : ∀ x ∈ fl [blk a0_12, M], x ∈ fl [blk a0_12, [b7], blk a0_5, [b2], M] := pick_sub [some 0, some 4] _ rfl
 have hfe : FR w.heap.size [blk a0_12] := hfr.pick [some 0] _ rfl
 exact ⟨a0_12, c0_12, rfl, hev, hmr, hfe, hf12_1.sub hsu⟩
end Go.Proofs.Ytcignnfdpgeogaa
