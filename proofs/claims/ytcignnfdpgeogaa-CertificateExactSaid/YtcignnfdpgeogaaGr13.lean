/- Walks, printed by program: each function returns what the partial function of the same name returns. Conditions: those of each theorem. -/
import Derived.Test.YtcignnfdpgeogaaGT
import Derived.Test.YtcignnfdpgeogaaGr11
import Derived.Test.YtcignnfdpgeogaaGr12
set_option linter.unusedVariables false
set_option linter.unusedSimpArgs false
set_option maxRecDepth 4000
namespace Go.Proofs.Ytcignnfdpgeogaa
open Go Go.V Go.Proofs
def r13_Least_L15 (p0_0 : List (Int × Int × Int × Int)) (p0_1 : Int) (b_s7_l13 : Int) (s : (List Int) × Int × Int) : Option (Step ((List Int) × Int × Int) (Int ⊕ ((List Int) × Int))) :=
match s with
| (d11_l15, most_s6_l15, y_s8_l15) =>
(if (decide (y_s8_l15 < ((d11_l15).length : Int))) = true then
((idx p0_0 y_s8_l15).bind fun x18 =>
(if (x18.2.1 != b_s7_l13) = true then
some (.next (d11_l15, most_s6_l15, IntKind.i64.wrap (y_s8_l15 + 1)))
else
((idx p0_0 y_s8_l15).bind fun x20 =>
((r11_Base p0_0 p0_1 d11_l15 y_s8_l15).bind fun x22 =>
((r12_Next x22 x20.2.2.1 p0_1).bind fun x24 =>
(if (x24.2 != 0) = true then
some (.done (.inl x24.2))
else
((idx d11_l15 y_s8_l15).bind fun x28 =>
some (.next ((d11_l15.set (Int.toNat y_s8_l15) x24.1), if x24.1 > most_s6_l15 then x24.1 else most_s6_l15, IntKind.i64.wrap (y_s8_l15 + 1))))))))))
else
some (.done (.inr (d11_l15, most_s6_l15))))

def r13_Least_L13 (p0_0 : List (Int × Int × Int × Int)) (p0_1 : Int) (s : (List Int) × Int × Int) : Option (Step ((List Int) × Int × Int) (Int ⊕ ((List Int) × Int))) :=
match s with
| (d11_l13, most_s6_l13, b_s7_l13) =>
(if (decide (b_s7_l13 < 32)) = true then
((loop (r13_Least_L15 p0_0 p0_1 b_s7_l13) (d11_l13, most_s6_l13, 0)).bind fun d => match d with
| (.inl t3__s3_x1500) => some (.done (.inl t3__s3_x1500))
| (.inr (d11_x1501, most_s6_x1501)) => some (.next (d11_x1501, most_s6_x1501, IntKind.i64.wrap (b_s7_l13 + 1))))
else
some (.done (.inr (d11_l13, most_s6_l13))))

def r13_Least (p0_0 : List (Int × Int × Int × Int)) (p0_1 : Int) : Option ((Int × (List Int)) × Int) :=
((r11_Valid p0_0 p0_1).bind fun x7 =>
(if (x7 != 0) = true then
some ((0, []), x7)
else
(if (0 : Int) ≤ ((p0_0).length : Int) ∧ (((p0_0).length : Int) : Int) ≤ 4294967296 then
((loop (r13_Least_L13 p0_0 p0_1) ((List.replicate (Int.toNat ((p0_0).length : Int)) 0 : List Int), 0, 0)).bind fun d => match d with
| (.inl t3__s3_x1300) => some ((0, []), t3__s3_x1300)
| (.inr (d11_x1301, most_s6_x1301)) => ((r12_Long most_s6_x1301).bind fun x31 =>
some ((x31, d11_x1301), 0)))
else none)))

theorem r13_Least_w (a_p0_0 : Option Addr) (c_p0_0 : Nat) (p0_0 : List (Int × Int × Int × Int)) (p0_1 : Int) (r : (Int × (List Int)) × Int) (w : World) (M : List Nat) (hms : MS w [M]) (hs_p0_0 : SlR (eIt4) w (fl [M]) a_p0_0 c_p0_0 p0_0) (h : r13_Least p0_0 p0_1 = some r) : CallVC Try.prog 33 [.agg #[.slice a_p0_0 (p0_0).length c_p0_0, Vi p0_1]] w fun v w' => ∃ (a0' : Option Addr), ∃ (c0' : Nat), v = .tuple #[.agg #[Vi r.1.1, .slice a0' (r.1.2).length c0'], Vi r.2] ∧ Ev [] w w' ∧ MS w' [blk a0', M] ∧ FR w.heap.size [blk a0'] ∧ OwnS (eInt .i64) 3 w' (fl [blk a0', M]) a0' c0' r.1.2 := by
 refine calls_vc hmx Try.func33 (by kernel_rfl) rfl (rs := [.cell 2 27, .tmp 3]) rfl (by kernel_rfl) (args := [.agg #[.slice a_p0_0 (p0_0).length c_p0_0, Vi p0_1]]) rfl ?_
 have hev : Ev [] w w := Ev.refl _ _
 have hfr : FR w.heap.size [] := FR.nil _
 refine c_sp ?_
 refine x_box (xv := .agg #[.slice a_p0_0 (p0_0).length c_p0_0, Vi p0_1]) rfl rfl rfl (fun b2 w2 hq2 hb2 he2 hz2 => ?_)
 replace hb2 : w2.heap[b2]? = some (.cells #[.slice a_p0_0 (p0_0).length c_p0_0, Vi p0_1] 25 (0, 0)) := hb2
 refine inl1 ?_
 have hst := Stp.box (ls := [M]) he2 hq2
 replace hs_p0_0 := hs_p0_0.step hst
 replace hms := hms.box he2 hq2 hb2
 replace hfr := hfr.box hev.size hq2
 replace hev := hev.ext he2
 refine x_alloc (z := .agg #[Vi 0, .slice none 0 0]) rfl rfl (by kernel_rfl) (fun b4 w4 hq4 hb4 he4 hz4 => ?_)
 replace hb4 : w4.heap[b4]? = some (.cells #[Vi 0, .slice none 0 0] 27 (0, 0)) := hb4
 refine inl1 ?_
 have hst := Stp.box (ls := [[b2], M]) he4 hq4
 replace hs_p0_0 := hs_p0_0.step hst
 replace hb2 := he4.box hb2 nn
 replace hms := hms.box he4 hq4 hb4
 replace hfr := hfr.box hev.size hq4
 replace hev := hev.ext he4
 refine x_pure 1 [(3, Vi 0)] _ _ _ (by kernel_rfl) ?_
 refine x_ek ?_
 refine c_seq ?_
 refine c_sp ?_
 refine x_load (xv := Vp b2 0) (.agg #[.slice a_p0_0 (p0_0).length c_p0_0, Vi p0_1]) rfl rfl rfl (reads_boxagg 0 [.slice a_p0_0 (p0_0).length c_p0_0, Vi p0_1] tagg25 hb2 nn rfl) ?_
 obtain ⟨x7, hx, h⟩ := bind_some h
 have hpk : MS w4 ([] ++ [[b4], [b2], M]) := hms.pick [some 0, some 1, some 2] _ rfl
 have hsb0 : ∀ x ∈ fl ([] ++ [[b4], [b2], M]), x ∈ fl [[b4], [b2], M] := pick_sub [some 0, some 1, some 2] _ rfl
 have hsb : ∀ x ∈ fl ([] ++ [(fl [[b4], [b2], M])]), x ∈ fl [[b4], [b2], M] := fun x hx => hsb0 x (fl_unfold x hx)
 have hcall := r11_Valid_w a_p0_0 c_p0_0 p0_0 p0_1 _ w4 (fl [[b4], [b2], M]) (MS.fold (P := []) hpk) (hs_p0_0.sub hsb) hx
 refine x_call 57 #[] #[] [.agg #[.slice a_p0_0 (p0_0).length c_p0_0, Vi p0_1]] _ rfl rfl rfl rfl hcall ?_
 rintro v w8 ⟨rfl, he8⟩
 clear hcall hx
 refine inl1 ?_
 have hst := Stp.ext (ls := [[b4], [b2], M]) he8
 replace hs_p0_0 := hs_p0_0.step hst
 replace hb2 := he8.box hb2 nn
 replace hb4 := he8.box hb4 nn
 replace hms := hms.ev he8
 replace hev := hev.ext he8
 clear hpk hsb hsb0
 refine x_pure 1 [(4, Vi x7)] _ _ _ (by kernel_rfl) ?_
 refine x_ek ?_
 refine c_sp ?_
 refine x_pure 2 [(13, Vi x7), (14, .bool (x7 != 0))] _ _ _ (by kernel_rfl) ?_
 refine x_ek ?_
 refine c_cond (x7 != 0) rfl (fun hb => ?_) (fun hb => ?_)
 · replace h := ite_t hb h
   refine c_sp ?_
   refine x_build (vs := []) (.agg #[Vi 0, .slice none 0 0]) rfl rfl rfl (fun _ _ => by kernel_rfl) ?_
   refine x_pure 1 [(16, Vi x7)] _ _ _ (by kernel_rfl) ?_
   obtain ⟨w9, hr9, hb9, he9⟩ := store_boxagg 0 [Vi 0, .slice none 0 0] #[Vi 0, .slice none 0 0] tagg27 hb4 rfl rfl rfl
   refine x_store w9 (xv := Vp b4 0) (yv := .agg #[Vi 0, .slice none 0 0]) rfl rfl rfl rfl hr9 ?_
   refine inl1 ?_
   have hst := Stp.ev' (ls := [[b4], [b2], M]) he9 (mem_flat 0 rfl)
   replace hs_p0_0 := hs_p0_0.step hst
   replace hb2 := he9.box hb2 (hms.apart 1 0 rfl rfl rfl _ mem1)
   replace hms := hms.ev he9
   replace hev := hev.then he9 (fun b hb => .inr (hfr.at 0 rfl b hb))
   replace hb4 := hb9
   refine x_pure 1 [(3, Vi x7)] _ _ _ (by kernel_rfl) ?_
   refine x_ek ?_
   refine c_ret ?_
   refine k_then_ret ?_
   refine r_ret (r_vals [.agg #[Vi 0, .slice none 0 0], Vi x7] ⟨⟨_, rfl, loadVar_of_reads (reads_boxagg (Mo := []) 0 [Vi 0, .slice none 0 0] tagg27 hb4 nn rfl)⟩, rfl, trivial⟩ ?_)
   have hx := some_inj h
   subst hx
   have hmr : MS w9 [blk none, M] := hms.pick [none, some 2] _ rfl
   have hsu : ∀ x ∈ fl [blk none, M], x ∈ fl [[b4], [b2], M] := pick_sub [none, some 2] _ rfl
   have hfe : FR w.heap.size [blk none] := hfr.pick [none] _ rfl
   exact ⟨none, 0, rfl, hev, hmr, hfe, OwnS.nil _ _ _ _⟩
 replace h := ite_f hb h
 refine c_skip ?_
 refine k_then ?_
 refine c_sp ?_
 refine x_fieldAddr (xv := Vp b2 0) (Vp b2 0) rfl rfl rfl (reads_field tfld25_0 _ _) ?_
 refine x_load (xv := Vp b2 0) (.slice a_p0_0 (p0_0).length c_p0_0) rfl rfl rfl (reads_box tcell23 hb2 nn 0 _ rfl) ?_
 refine x_len (vs := [.slice a_p0_0 (p0_0).length c_p0_0]) (Vi ((p0_0).length : Int)) rfl rfl rfl (reads_len tsl23 _ _ _ _ _) ?_
 have hg := guard_l h
 replace h := guard_r h
 obtain ⟨a10, c10, w10, hr10, he10, hn10, hw10⟩ := own_make (e := (eInt .i64)) tel22 w8 ((p0_0).length : Int) hg.1 hg.2 0 (fun _ _ => rfl)
 refine x_makeSlice _ w10 (xv := Vi ((p0_0).length : Int)) (yv := Vi ((p0_0).length : Int)) rfl rfl rfl rfl hr10 ?_
 refine inl1 ?_
 have hst := Stp.push (ls := [[b4], [b2], M]) (l := blk a10) he10 (fun _ h => by cases h) (fun b hb => (hn10 b hb).1)
 replace hs_p0_0 := hs_p0_0.step hst
 replace hb2 := he10.box hb2 nn
 replace hb4 := he10.box hb4 nn
 replace hms := hms.push he10 hn10
 replace hfr := hfr.push (fun b hb => Nat.le_trans hev.size (hn10 b hb).1)
 replace hev := hev.ext he10
 have ho10 := hw10 (fl [blk a10, [b4], [b2], M])
 clear hw10
 refine x_pure 1 [(5, .slice a10 ((List.replicate (Int.toNat ((p0_0).length : Int)) 0 : List Int)).length c10)] _ _ _ (by kernel_rfl) ?_
 refine x_ek ?_
 refine c_norm [(1, Vp b2 0), (2, Vp b4 0), (5, .slice a10 ((List.replicate (Int.toNat ((p0_0).length : Int)) 0 : List Int)).length c10)] ⟨rfl, rfl, rfl, trivial⟩ (fun J => ?_)
 refine c_sp ?_
 refine x_pure 1 [(6, Vi 0)] _ _ _ (by kernel_rfl) ?_
 refine x_ek ?_
 refine c_seq ?_
 refine c_sp ?_
 refine x_pure 1 [(7, Vi 0)] _ _ _ (by kernel_rfl) ?_
 refine x_ek ?_
 refine c_block ?_
 have hpk : MS w10 [[b2], [b4], blk a10, M] := hms.pick [some 2, some 1, some 0, some 3] _ rfl
 have hsu : ∀ x ∈ fl [[b2], [b4], blk a10, M], x ∈ fl [blk a10, [b4], [b2], M] := pick_sub [some 2, some 1, some 0, some 3] _ rfl
 replace hs_p0_0 := hs_p0_0.sub hsu
 replace ho10 := ho10.sub hsu
 replace hms := hpk
 replace hfr : FR w.heap.size [[b2], [b4], blk a10] := hfr.pick [some 2, some 1, some 0] _ rfl
 clear hpk hsu
 obtain ⟨d13, hd13, h13⟩ := bind_some h
 obtain ⟨m13, hd13⟩ := loop_some hd13
 refine c_loop (loop_rule hmx (σ := Nat × (List Int) × Int × Int × Option Addr) (fun s => match s with | (_, d11_l13, most_s6_l13, b_s7_l13, a11_l13) => [(1, Vp b2 0), (2, Vp b4 0), (5, .slice a11_l13 (d11_l13).length c10), (6, Vi most_s6_l13), (7, Vi b_s7_l13)]) (fun s w' => match s with | (m, d11_l13, most_s6_l13, b_s7_l13, a11_l13) => loopN (r13_Least_L13 p0_0 p0_1) m (d11_l13, most_s6_l13, b_s7_l13) = some d13 ∧ Ev [] w w' ∧ MS w' [[b2], [b4], blk a11_l13, M] ∧ FR w.heap.size [[b2], [b4], blk a11_l13] ∧ SlR (eIt4) w' (fl [[b2], [b4], blk a11_l13, M]) a_p0_0 c_p0_0 p0_0 ∧ w'.heap[b2]? = some (.cells #[.slice a_p0_0 (p0_0).length c_p0_0, Vi p0_1] 25 (0, 0)) ∧ w'.heap[b4]? = some (.cells #[Vi 0, .slice none 0 0] 27 (0, 0)) ∧ OwnS (eInt .i64) 3 w' (fl [[b2], [b4], blk a11_l13, M]) a11_l13 c10 d11_l13) (fun s => s.1) (m13, (List.replicate (Int.toNat ((p0_0).length : Int)) 0 : List Int), 0, 0, a10) ⟨rfl, rfl, rfl, rfl, rfl, trivial⟩ ⟨hd13, hev, hms, hfr, hs_p0_0, hb2, hb4, ho10⟩ ?_)
 rintro ⟨m13, d11_l13, most_s6_l13, b_s7_l13, a11_l13⟩ J wl13 ⟨hn13, hev, hms, hfr, hs_p0_0, hb2, hb4, ho10⟩
 rcases m13 with _ | m13
 · exact (loopN_zero hn13).elim
 obtain ⟨t13, h, hn13⟩ := bind_some hn13
 refine c_seq ?_
 refine c_sp ?_
 refine x_pure 2 [(21, Vi b_s7_l13), (22, .bool (decide (b_s7_l13 < 32)))] _ _ _ (by kernel_rfl) ?_
 refine x_ek ?_
 refine c_norm [(1, Vp b2 0), (2, Vp b4 0), (5, .slice a11_l13 (d11_l13).length c10), (6, Vi most_s6_l13), (7, Vi b_s7_l13), (22, .bool (decide (b_s7_l13 < 32)))] ⟨rfl, rfl, rfl, rfl, rfl, rfl, trivial⟩ (fun J => ?_)
 refine c_cond (decide (b_s7_l13 < 32)) rfl (fun hb => ?_) (fun hb => ?_)
 · replace h := ite_t hb h
   refine c_skip ?_
   refine k_then ?_
   refine c_seq ?_
   refine c_block ?_
   refine c_sp ?_
   refine x_pure 1 [(8, Vi 0)] _ _ _ (by kernel_rfl) ?_
   refine x_ek ?_
   refine c_block ?_
   obtain ⟨d15, hd15, h15⟩ := bind_some h
   obtain ⟨m15, hd15⟩ := loop_some hd15
   refine c_loop (loop_rule hmx (σ := Nat × (List Int) × Int × Int × Option Addr) (fun s => match s with | (_, d11_l15, most_s6_l15, y_s8_l15, a11_l15) => [(1, Vp b2 0), (2, Vp b4 0), (5, .slice a11_l15 (d11_l15).length c10), (6, Vi most_s6_l15), (7, Vi b_s7_l13), (8, Vi y_s8_l15)]) (fun s w' => match s with | (m, d11_l15, most_s6_l15, y_s8_l15, a11_l15) => loopN (r13_Least_L15 p0_0 p0_1 b_s7_l13) m (d11_l15, most_s6_l15, y_s8_l15) = some d15 ∧ Ev [] w w' ∧ MS w' [[b2], [b4], blk a11_l15, M] ∧ FR w.heap.size [[b2], [b4], blk a11_l15] ∧ SlR (eIt4) w' (fl [[b2], [b4], blk a11_l15, M]) a_p0_0 c_p0_0 p0_0 ∧ w'.heap[b2]? = some (.cells #[.slice a_p0_0 (p0_0).length c_p0_0, Vi p0_1] 25 (0, 0)) ∧ w'.heap[b4]? = some (.cells #[Vi 0, .slice none 0 0] 27 (0, 0)) ∧ OwnS (eInt .i64) 3 w' (fl [[b2], [b4], blk a11_l15, M]) a11_l15 c10 d11_l15) (fun s => s.1) (m15, d11_l13, most_s6_l13, 0, a11_l13) ⟨rfl, rfl, rfl, rfl, rfl, rfl, trivial⟩ ⟨hd15, hev, hms, hfr, hs_p0_0, hb2, hb4, ho10⟩ ?_)
   rintro ⟨m15, d11_l15, most_s6_l15, y_s8_l15, a11_l15⟩ J wl15 ⟨hn15, hev, hms, hfr, hs_p0_0, hb2, hb4, ho10⟩
   rcases m15 with _ | m15
   · exact (loopN_zero hn15).elim
   obtain ⟨t15, h, hn15⟩ := bind_some hn15
   refine c_seq ?_
   refine c_sp ?_
   refine x_pure 2 [(25, Vi y_s8_l15), (26, .slice a11_l15 (d11_l15).length c10)] _ _ _ (by kernel_rfl) ?_
   refine x_len (vs := [.slice a11_l15 (d11_l15).length c10]) (Vi ((d11_l15).length : Int)) rfl rfl rfl (reads_len tsl22 _ _ _ _ _) ?_
   refine x_pure 1 [(28, .bool (decide (y_s8_l15 < ((d11_l15).length : Int))))] _ _ _ (by kernel_rfl) ?_
   refine x_ek ?_
   refine c_norm [(1, Vp b2 0), (2, Vp b4 0), (5, .slice a11_l15 (d11_l15).length c10), (6, Vi most_s6_l15), (7, Vi b_s7_l13), (8, Vi y_s8_l15), (28, .bool (decide (y_s8_l15 < ((d11_l15).length : Int))))] ⟨rfl, rfl, rfl, rfl, rfl, rfl, rfl, trivial⟩ (fun J => ?_)
   refine c_cond (decide (y_s8_l15 < ((d11_l15).length : Int))) rfl (fun hb => ?_) (fun hb => ?_)
   · replace h := ite_t hb h
     refine c_skip ?_
     refine k_then ?_
     refine c_seq ?_
     refine c_block ?_
     refine c_seq ?_
     refine c_sp ?_
     refine x_fieldAddr (xv := Vp b2 0) (Vp b2 0) rfl rfl rfl (reads_field tfld25_0 _ _) ?_
     refine x_load (xv := Vp b2 0) (.slice a_p0_0 (p0_0).length c_p0_0) rfl rfl rfl (reads_box tcell23 hb2 nn 0 _ rfl) ?_
     refine x_pure 1 [(33, Vi y_s8_l15)] _ _ _ (by kernel_rfl) ?_
     obtain ⟨x18, hx18, h⟩ := bind_some h
     obtain ⟨ad18, cs18, hr18, hc18, hR⟩ := reads_index (Mo := []) tsl23 hs_p0_0 hx18
     obtain ⟨_, _, rfl, rfl, ⟨_, _, rfl, rfl, ⟨_, _, rfl, rfl, rfl⟩⟩⟩ := hR
     refine x_indexAddr (xv := .slice a_p0_0 (p0_0).length c_p0_0) (yv := Vi y_s8_l15) (.pointer (some ad18)) rfl rfl rfl rfl hr18 ?_
     refine x_fieldAddr (xv := .pointer (some ad18)) (.pointer (some (Addr.add ad18 1))) rfl rfl rfl (reads_field tfld79_1 _ _) ?_
     refine x_load (xv := .pointer (some (Addr.add ad18 1))) (Vi x18.2.1) rfl rfl rfl (reads_cell tcell3 hc18 (fun _ h => by cases h) 1 _ rfl) ?_
     refine x_pure 2 [(37, Vi b_s7_l13), (38, .bool (x18.2.1 != b_s7_l13))] _ _ _ (by kernel_rfl) ?_
     refine x_ek ?_
     refine c_cond (x18.2.1 != b_s7_l13) rfl (fun hb => ?_) (fun hb => ?_)
     · replace h := ite_t hb h
       refine c_exit ?_
       refine k_then_exit ?_
       refine k_block_in ?_
       refine k_then ?_
       refine c_plain ?_
       refine x_pure 3 [(29, Vi y_s8_l15), (30, Vi (IntKind.i64.wrap (y_s8_l15 + 1))), (8, Vi (IntKind.i64.wrap (y_s8_l15 + 1)))] _ _ _ (by kernel_rfl) ?_
       refine x_end rfl ?_
       have hx := some_inj h
       subst hx
       exact k_then ⟨(m15, d11_l15, most_s6_l15, IntKind.i64.wrap (y_s8_l15 + 1), a11_l15), ⟨rfl, rfl, rfl, rfl, rfl, rfl, trivial⟩, ⟨hn15, hev, hms, hfr, hs_p0_0, hb2, hb4, ho10⟩, Nat.lt_succ_self _⟩
     replace h := ite_f hb h
     refine c_skip ?_
     refine k_then ?_
     refine c_seq ?_
     refine c_drawn [] [(0, false), (1, false), (2, false), (4, false), (5, false), (6, false), (7, false), (8, false), (9, false), (10, false), (11, false), (3, false), (12, false), (13, false), (14, false), (15, false), (16, false), (17, false)] _ (by kernel_rfl) rfl ?_
     have hst := Stp.ext (ls := [[b2], [b4], blk a11_l15, M]) (Ev.drew wl15)
     replace hb2 := (Ev.drew wl15).box hb2 nn
     replace hs_p0_0 := hs_p0_0.step hst
     replace hb4 := (Ev.drew wl15).box hb4 nn
     replace ho10 := ho10.step hst (Ev.drew wl15) nn2
     replace hms := hms.ev (Ev.drew wl15)
     replace hev := hev.ext (Ev.drew wl15)
     refine x_load (xv := Vp b2 0) (.agg #[.slice a_p0_0 (p0_0).length c_p0_0, Vi p0_1]) rfl rfl rfl (reads_boxagg 0 [.slice a_p0_0 (p0_0).length c_p0_0, Vi p0_1] tagg25 hb2 nn rfl) ?_
     refine x_pure 2 [(41, .slice a11_l15 (d11_l15).length c10), (42, Vi y_s8_l15)] _ _ _ (by kernel_rfl) ?_
     refine x_fieldAddr (xv := Vp b2 0) (Vp b2 0) rfl rfl rfl (reads_field tfld25_0 _ _) ?_
     refine x_load (xv := Vp b2 0) (.slice a_p0_0 (p0_0).length c_p0_0) rfl rfl rfl (reads_box tcell23 hb2 nn 0 _ rfl) ?_
     refine x_pure 1 [(46, Vi y_s8_l15)] _ _ _ (by kernel_rfl) ?_
     obtain ⟨x20, hx20, h⟩ := bind_some h
     obtain ⟨ad20, cs20, hr20, hc20, hR⟩ := reads_index (Mo := []) tsl23 hs_p0_0 hx20
     obtain ⟨_, _, rfl, rfl, ⟨_, _, rfl, rfl, ⟨_, _, rfl, rfl, rfl⟩⟩⟩ := hR
     refine x_indexAddr (xv := .slice a_p0_0 (p0_0).length c_p0_0) (yv := Vi y_s8_l15) (.pointer (some ad20)) rfl rfl rfl rfl hr20 ?_
     refine x_fieldAddr (xv := .pointer (some ad20)) (.pointer (some (Addr.add ad20 2))) rfl rfl rfl (reads_field tfld79_2 _ _) ?_
     refine x_load (xv := .pointer (some (Addr.add ad20 2))) (Vi x20.2.2.1) rfl rfl rfl (reads_cell tcell3 hc20 (fun _ h => by cases h) 2 _ rfl) ?_
     refine x_fieldAddr (xv := Vp b2 0) (Vp b2 1) rfl rfl rfl (reads_field tfld25_1 _ _) ?_
     refine x_load (xv := Vp b2 1) (Vi p0_1) rfl rfl rfl (reads_box tcell3 hb2 nn 1 _ rfl) ?_
     obtain ⟨x22, hx, h⟩ := bind_some h
     have hpk : MS (wl15).drew ([] ++ [[b2], [b4], M]) := hms.pick [some 0, some 1, some 3] _ rfl
     have hsb0 : ∀ x ∈ fl ([] ++ [[b2], [b4], M]), x ∈ fl [[b2], [b4], blk a11_l15, M] := pick_sub [some 0, some 1, some 3] _ rfl
     have hsb : ∀ x ∈ fl ([] ++ [(fl [[b2], [b4], M])]), x ∈ fl [[b2], [b4], blk a11_l15, M] := fun x hx => hsb0 x (fl_unfold x hx)
     have hcall := r11_Base_w a_p0_0 c_p0_0 p0_0 p0_1 a11_l15 c10 d11_l15 y_s8_l15 _ (wl15).drew (fl [[b2], [b4], M]) (MS.fold (P := []) hpk) (hs_p0_0.sub hsb) (ho10.ro hsb (fun b hb hb2 => pick_out hms 2 rfl [some 0, some 1, some 3] ([] ++ [[b2], [b4], M]) rfl rfl b hb (fl_unfold b hb2))) hx
     refine x_call 59 #[] #[] [.agg #[.slice a_p0_0 (p0_0).length c_p0_0, Vi p0_1], .slice a11_l15 (d11_l15).length c10, Vi y_s8_l15] _ rfl rfl rfl rfl hcall ?_
     rintro v w23 ⟨rfl, he23⟩
     clear hcall hx
     refine ⟨.inr he23, ?_⟩
     have hst := Stp.ext (ls := [[b2], [b4], blk a11_l15, M]) he23
     replace hb2 := he23.box hb2 nn
     replace hs_p0_0 := hs_p0_0.step hst
     replace hb4 := he23.box hb4 nn
     replace ho10 := ho10.step hst he23 nn2
     replace hc20 := hc20.step hst
     replace hms := hms.ev he23
     replace hev := hev.ext he23
     clear hpk hsb hsb0
     obtain ⟨x24, hx, h⟩ := bind_some h
     have hcall := r12_Next_w x22 x20.2.2.1 p0_1 _ w23 hx
     refine x_call 58 #[] #[] [Vi x22, Vi x20.2.2.1, Vi p0_1] _ rfl rfl rfl rfl hcall ?_
     rintro v w25 ⟨rfl, he25⟩
     clear hcall hx
     refine ⟨.inr he25, ?_⟩
     have hst := Stp.ext (ls := [[b2], [b4], blk a11_l15, M]) he25
     replace hb2 := he25.box hb2 nn
     replace hs_p0_0 := hs_p0_0.step hst
     replace hb4 := he25.box hb4 nn
     replace ho10 := ho10.step hst he25 nn2
     replace hc20 := hc20.step hst
     replace hms := hms.ev he25
     replace hev := hev.ext he25
     refine x_pure 5 [(39, .tuple #[Vi x24.1, Vi x24.2]), (53, Vi x24.1), (54, Vi x24.2), (9, Vi x24.1), (10, Vi x24.2)] _ _ _ (by kernel_rfl) ?_
     refine x_ek ?_
     refine c_norm [(1, Vp b2 0), (2, Vp b4 0), (5, .slice a11_l15 (d11_l15).length c10), (6, Vi most_s6_l15), (7, Vi b_s7_l13), (8, Vi y_s8_l15), (9, Vi x24.1), (10, Vi x24.2)] ⟨rfl, rfl, rfl, rfl, rfl, rfl, rfl, rfl, trivial⟩ (fun J => ?_)
     refine c_seq ?_
     refine c_sp ?_
     refine x_pure 2 [(55, Vi x24.2), (56, .bool (x24.2 != 0))] _ _ _ (by kernel_rfl) ?_
     refine x_ek ?_
     refine c_cond (x24.2 != 0) rfl (fun hb => ?_) (fun hb => ?_)
     · replace h := ite_t hb h
       refine c_sp ?_
       refine x_build (vs := []) (.agg #[Vi 0, .slice none 0 0]) rfl rfl rfl (fun _ _ => by kernel_rfl) ?_
       refine x_pure 1 [(58, Vi x24.2)] _ _ _ (by kernel_rfl) ?_
       obtain ⟨w27, hr27, hb27, he27⟩ := store_boxagg 0 [Vi 0, .slice none 0 0] #[Vi 0, .slice none 0 0] tagg27 hb4 rfl rfl rfl
       refine x_store w27 (xv := Vp b4 0) (yv := .agg #[Vi 0, .slice none 0 0]) rfl rfl rfl rfl hr27 ?_
       refine inl1 ?_
       have hst := Stp.ev' (ls := [[b2], [b4], blk a11_l15, M]) he27 (mem_flat 1 rfl)
       replace hb2 := he27.box hb2 (hms.apart 0 1 rfl rfl rfl _ mem1)
       replace hs_p0_0 := hs_p0_0.step hst
       replace ho10 := ho10.step hst he27 (hms.apart 2 1 rfl rfl rfl)
       replace hms := hms.ev he27
       replace hev := hev.then he27 (fun b hb => .inr (hfr.at 1 rfl b hb))
       replace hb4 := hb27
       refine x_pure 1 [(3, Vi x24.2)] _ _ _ (by kernel_rfl) ?_
       refine x_ek ?_
       refine c_ret ?_
       refine k_then_ret ?_
       refine k_block_ret ?_
       refine k_then_ret ?_
       have hx := some_inj h
       subst hx
       have hy := some_inj hn15
       subst hy
       replace h := h15
       refine k_then_ret ?_
       refine k_block_ret ?_
       refine k_block_ret ?_
       refine k_then_ret ?_
       have hx := some_inj h
       subst hx
       have hy := some_inj hn13
       subst hy
       replace h := h13
       refine k_then_ret ?_
       refine k_block_ret ?_
       refine k_then_ret ?_
       refine r_ret (r_vals [.agg #[Vi 0, .slice none 0 0], Vi x24.2] ⟨⟨_, rfl, loadVar_of_reads (reads_boxagg (Mo := []) 0 [Vi 0, .slice none 0 0] tagg27 hb4 nn rfl)⟩, rfl, trivial⟩ ?_)
       have hx := some_inj h
       subst hx
       have hmr : MS w27 [blk none, M] := hms.pick [none, some 3] _ rfl
       have hsu : ∀ x ∈ fl [blk none, M], x ∈ fl [[b2], [b4], blk a11_l15, M] := pick_sub [none, some 3] _ rfl
       have hfe : FR w.heap.size [blk none] := hfr.pick [none] _ rfl
       exact ⟨none, 0, rfl, hev, hmr, hfe, OwnS.nil _ _ _ _⟩
     replace h := ite_f hb h
     refine c_skip ?_
     refine k_then ?_
     refine c_sp ?_
     refine x_pure 3 [(59, .slice a11_l15 (d11_l15).length c10), (60, Vi y_s8_l15), (61, Vi x24.1)] _ _ _ (by kernel_rfl) ?_
     obtain ⟨x28, hx28, h⟩ := bind_some h
     obtain ⟨g28, cs28, ha, hr28, hc28, hR⟩ := own_index (Mo := []) tsl22 ho10 hx28
     subst ha
     obtain rfl := hR
     refine x_indexAddr (xv := .slice (Ad g28 0) (d11_l15).length c10) (yv := Vi y_s8_l15) (.pointer (some ⟨g28, (Int.toNat y_s8_l15) * (eInt .i64).n, none⟩)) rfl rfl rfl rfl hr28 ?_
     obtain ⟨w30, hr30, he30, ho30⟩ := own_store (y := x24.1) 0 (Vi x24.1) tcell3 ho10 (mem_flat 2 rfl _ mem1) hx28 rfl rfl (fun _ _ _ hR => set_int hR)
     refine x_store w30 (xv := .pointer (some ⟨g28, (Int.toNat y_s8_l15) * (eInt .i64).n, none⟩)) (yv := Vi x24.1) rfl rfl rfl rfl hr30 ?_
     refine inl1 ?_
     have hst := Stp.ev' (ls := [[b2], [b4], blk (Ad g28 0), M]) he30 (mem_flat 2 rfl)
     replace hb2 := he30.box hb2 (hms.apart 0 2 rfl rfl rfl _ mem1)
     replace hs_p0_0 := hs_p0_0.step hst
     replace hb4 := he30.box hb4 (hms.apart 1 2 rfl rfl rfl _ mem1)
     replace hms := hms.ev he30
     replace hev := hev.then he30 (fun b hb => .inr (hfr.at 2 rfl b hb))
     replace ho10 := ho30
     have hsl : (Value.slice (Ad g28 0) (d11_l15).length c10) = (Value.slice (Ad g28 0) ((d11_l15.set (Int.toNat y_s8_l15) x24.1)).length c10) := by first | (rw [List.length_set]; done) | simp only [List.length_set]
     try rw [hsl]
     clear hsl
     refine x_ek ?_
     refine c_plain ?_
     refine x_pure 2 [(63, Vi most_s6_l15), (64, Vi x24.1)] _ _ _ (by kernel_rfl) ?_
     refine x_max (vs := [Vi most_s6_l15, Vi x24.1]) (Vi (if x24.1 > most_s6_l15 then x24.1 else most_s6_l15)) rfl rfl rfl (fun _ _ => rfl) ?_
     refine x_pure 1 [(6, Vi (if x24.1 > most_s6_l15 then x24.1 else most_s6_l15))] _ _ _ (by kernel_rfl) ?_
     refine x_end rfl ?_
     refine k_block ?_
     refine k_then ?_
     refine c_plain ?_
     refine x_pure 3 [(29, Vi y_s8_l15), (30, Vi (IntKind.i64.wrap (y_s8_l15 + 1))), (8, Vi (IntKind.i64.wrap (y_s8_l15 + 1)))] _ _ _ (by kernel_rfl) ?_
     refine x_end rfl ?_
     have hx := some_inj h
     subst hx
     exact k_then ⟨(m15, (d11_l15.set (Int.toNat y_s8_l15) x24.1), if x24.1 > most_s6_l15 then x24.1 else most_s6_l15, IntKind.i64.wrap (y_s8_l15 + 1), (Ad g28 0)), ⟨rfl, rfl, rfl, rfl, rfl, rfl, trivial⟩, ⟨hn15, hev, hms, hfr, hs_p0_0, hb2, hb4, ho10⟩, Nat.lt_succ_self _⟩
   replace h := ite_f hb h
   refine c_exit ?_
   refine k_then_exit ?_
   have hx := some_inj h
   subst hx
   have hy := some_inj hn15
   subst hy
   replace h := h15
   refine k_then_exit ?_
   refine k_block_in ?_
   refine k_block ?_
   refine k_then ?_
   refine c_norm [(1, Vp b2 0), (2, Vp b4 0), (5, .slice a11_l15 (d11_l15).length c10), (6, Vi most_s6_l15), (7, Vi b_s7_l13)] ⟨rfl, rfl, rfl, rfl, rfl, trivial⟩ (fun J => ?_)
   refine c_plain ?_
   refine x_pure 3 [(23, Vi b_s7_l13), (24, Vi (IntKind.i64.wrap (b_s7_l13 + 1))), (7, Vi (IntKind.i64.wrap (b_s7_l13 + 1)))] _ _ _ (by kernel_rfl) ?_
   refine x_end rfl ?_
   have hx := some_inj h
   subst hx
   exact k_then ⟨(m13, d11_l15, most_s6_l15, IntKind.i64.wrap (b_s7_l13 + 1), a11_l15), ⟨rfl, rfl, rfl, rfl, rfl, trivial⟩, ⟨hn13, hev, hms, hfr, hs_p0_0, hb2, hb4, ho10⟩, Nat.lt_succ_self _⟩
 replace h := ite_f hb h
 refine c_exit ?_
 refine k_then_exit ?_
 have hx := some_inj h
 subst hx
 have hy := some_inj hn13
 subst hy
 replace h := h13
 refine k_then_exit ?_
 refine k_block_in ?_
 refine k_then ?_
 refine c_norm [(2, Vp b4 0), (5, .slice a11_l13 (d11_l13).length c10), (6, Vi most_s6_l13)] ⟨rfl, rfl, rfl, trivial⟩ (fun J => ?_)
 refine c_sp ?_
 refine x_pure 1 [(66, Vi most_s6_l13)] _ _ _ (by kernel_rfl) ?_
 obtain ⟨x31, hx, h⟩ := bind_some h
 have hcall := r12_Long_w most_s6_l13 _ wl13 hx
 refine x_call 44 #[] #[] [Vi most_s6_l13] _ rfl rfl rfl rfl hcall ?_
 rintro v w32 ⟨rfl, he32⟩
 clear hcall hx
 refine inl1 ?_
 have hst := Stp.ext (ls := [[b2], [b4], blk a11_l13, M]) he32
 replace hb2 := he32.box hb2 nn
 replace hs_p0_0 := hs_p0_0.step hst
 replace hb4 := he32.box hb4 nn
 replace ho10 := ho10.step hst he32 nn2
 replace hms := hms.ev he32
 replace hev := hev.ext he32
 refine x_pure 1 [(68, .slice a11_l13 (d11_l13).length c10)] _ _ _ (by kernel_rfl) ?_
 refine x_build (vs := [(0, Vi x31), (1, .slice a11_l13 (d11_l13).length c10)]) (.agg #[Vi x31, .slice a11_l13 (d11_l13).length c10]) rfl rfl rfl (fun _ _ => by kernel_rfl) ?_
 obtain ⟨w33, hr33, hb33, he33⟩ := store_boxagg 0 [Vi x31, .slice a11_l13 (d11_l13).length c10] #[Vi x31, .slice a11_l13 (d11_l13).length c10] tagg27 hb4 rfl rfl rfl
 refine x_store w33 (xv := Vp b4 0) (yv := .agg #[Vi x31, .slice a11_l13 (d11_l13).length c10]) rfl rfl rfl rfl hr33 ?_
 refine inl1 ?_
 have hst := Stp.ev' (ls := [[b2], [b4], blk a11_l13, M]) he33 (mem_flat 1 rfl)
 replace hb2 := he33.box hb2 (hms.apart 0 1 rfl rfl rfl _ mem1)
 replace hs_p0_0 := hs_p0_0.step hst
 replace ho10 := ho10.step hst he33 (hms.apart 2 1 rfl rfl rfl)
 replace hms := hms.ev he33
 replace hev := hev.then he33 (fun b hb => .inr (hfr.at 1 rfl b hb))
 replace hb4 := hb33
 refine x_pure 1 [(3, Vi 0)] _ _ _ (by kernel_rfl) ?_
 refine x_ek ?_
 refine c_ret ?_
 refine r_ret (r_vals [.agg #[Vi x31, .slice a11_l13 (d11_l13).length c10], Vi 0] ⟨⟨_, rfl, loadVar_of_reads (reads_boxagg (Mo := []) 0 [Vi x31, .slice a11_l13 (d11_l13).length c10] tagg27 hb4 nn rfl)⟩, rfl, trivial⟩ ?_)
 have hx := some_inj h
 subst hx
 have hmr : MS w33 [blk a11_l13, M] := hms.pick [some 2, some 3] _ rfl
 have hsu : ∀ x ∈ fl [blk a11_l13, M], x ∈ fl [[b2], [b4], blk a11_l13, M] := pick_sub [some 2, some 3] _ rfl
 have hfe : FR w.heap.size [blk a11_l13] := hfr.pick [some 2] _ rfl
 exact ⟨a11_l13, c10, rfl, hev, hmr, hfe, ho10.sub hsu⟩
def r13_Witness (p0_0 : List (Int × Int × Int × Int)) (p0_1 : Int) : Option ((List Int) × Int) :=
((r13_Least p0_0 p0_1).bind fun x4 =>
(if (x4.2 != 0) = true then
some ([], x4.2)
else
((r11_Back p0_0 p0_1 x4.1.2).bind fun x11 =>
some (x11, 0))))

theorem r13_Witness_w (a_p0_0 : Option Addr) (c_p0_0 : Nat) (p0_0 : List (Int × Int × Int × Int)) (p0_1 : Int) (r : (List Int) × Int) (w : World) (M : List Nat) (hms : MS w [M]) (hs_p0_0 : SlR (eIt4) w (fl [M]) a_p0_0 c_p0_0 p0_0) (h : r13_Witness p0_0 p0_1 = some r) : CallVC Try.prog 34 [.agg #[.slice a_p0_0 (p0_0).length c_p0_0, Vi p0_1]] w fun v w' => ∃ (a0' : Option Addr), ∃ (c0' : Nat), v = .tuple #[.slice a0' (r.1).length c0', Vi r.2] ∧ Ev [] w w' ∧ MS w' [blk a0', M] ∧ FR w.heap.size [blk a0'] ∧ OwnS (eInt .i64) 3 w' (fl [blk a0', M]) a0' c0' r.1 := by
 refine calls_vc hmx Try.func34 (by kernel_rfl) rfl (rs := [.tmp 2, .tmp 3]) rfl (by kernel_rfl) (args := [.agg #[.slice a_p0_0 (p0_0).length c_p0_0, Vi p0_1]]) rfl ?_
 have hev : Ev [] w w := Ev.refl _ _
 have hfr : FR w.heap.size [] := FR.nil _
 refine c_sp ?_
 refine x_box (xv := .agg #[.slice a_p0_0 (p0_0).length c_p0_0, Vi p0_1]) rfl rfl rfl (fun b2 w2 hq2 hb2 he2 hz2 => ?_)
 replace hb2 : w2.heap[b2]? = some (.cells #[.slice a_p0_0 (p0_0).length c_p0_0, Vi p0_1] 25 (0, 0)) := hb2
 refine inl1 ?_
 have hst := Stp.box (ls := [M]) he2 hq2
 replace hs_p0_0 := hs_p0_0.step hst
 replace hms := hms.box he2 hq2 hb2
 replace hfr := hfr.box hev.size hq2
 replace hev := hev.ext he2
 refine x_pure 2 [(2, .slice none 0 0), (3, Vi 0)] _ _ _ (by kernel_rfl) ?_
 refine x_ek ?_
 refine c_sp ?_
 refine x_load (xv := Vp b2 0) (.agg #[.slice a_p0_0 (p0_0).length c_p0_0, Vi p0_1]) rfl rfl rfl (reads_boxagg 0 [.slice a_p0_0 (p0_0).length c_p0_0, Vi p0_1] tagg25 hb2 nn rfl) ?_
 obtain ⟨x4, hx, h⟩ := bind_some h
 have hpk : MS w2 ([] ++ [[b2], M]) := hms.pick [some 0, some 1] _ rfl
 have hsb0 : ∀ x ∈ fl ([] ++ [[b2], M]), x ∈ fl [[b2], M] := pick_sub [some 0, some 1] _ rfl
 have hsb : ∀ x ∈ fl ([] ++ [(fl [[b2], M])]), x ∈ fl [[b2], M] := fun x hx => hsb0 x (fl_unfold x hx)
 have hcall := r13_Least_w a_p0_0 c_p0_0 p0_0 p0_1 _ w2 (fl [[b2], M]) (MS.fold (P := []) hpk) (hs_p0_0.sub hsb) hx
 refine x_call 33 #[] #[] [.agg #[.slice a_p0_0 (p0_0).length c_p0_0, Vi p0_1]] _ rfl rfl rfl rfl hcall ?_
 rintro v w5 ⟨a0_5, c0_5, rfl, he5, hmn5, hfn5, hf5_1⟩
 clear hcall hx
 refine inl1 ?_
 have hpk2 : MS w2 ([] ++ [[b2], M]) := hms.pick [some 0, some 1] _ rfl
 have hsb2 : ∀ x ∈ fl ([] ++ [[b2], M]), x ∈ fl [[b2], M] := pick_sub [some 0, some 1] _ rfl
 have hst0 := Stp.call (LS := [[b2], M]) (res := [blk a0_5]) (par := []) (R := [[b2], M]) he5 (fun b hb => hsb2 b (fl_left' (P := []) b hb)) hfn5 (NP.init _ _) (fun x hx => hsb2 x (fl_right' (P := []) x hx))
 have hsn : ∀ x ∈ fl [blk a0_5, [b2], M], x ∈ fl ([blk a0_5] ++ ([] ++ [[b2], M])) := pick_sub [some 0, some 1, some 2] _ rfl
 have hst := hst0.res hsn
 replace hs_p0_0 := hs_p0_0.step hst
 replace hb2 := he5.box hb2 ((MS.outs (P := []) hpk2 0 rfl) _ mem1)
 replace hms : MS w5 [blk a0_5, [b2], M] := (MS.call (P := []) (R := [[b2], M]) (res := [blk a0_5]) (par := []) hpk2 he5 hmn5 hfn5 (NP.init _ _)).pick [some 0, some 1, some 2] _ rfl
 have hfr2 : FR w.heap.size [blk a0_5, [b2]] := (FR.cons (fun b hb => Nat.le_trans hev.size (hfn5.at 0 rfl b hb)) (FR.cons (hfr.at 0 rfl) (FR.nil _)))
 replace hev := hev.ext he5
 replace hfr := hfr2
 clear hfr2
 replace hf5_1 := OwnS.plain (M' := fl [blk a0_5, [b2], M]) (plain_int _) hf5_1
 clear hpk hsb hsb0 hpk2 hsb2 hst0 hsn hst
 refine x_pure 3 [(6, .tuple #[.agg #[Vi x4.1.1, .slice a0_5 (x4.1.2).length c0_5], Vi x4.2]), (9, .agg #[Vi x4.1.1, .slice a0_5 (x4.1.2).length c0_5]), (10, Vi x4.2)] _ _ _ (by kernel_rfl) ?_
 refine x_alloc (z := .agg #[Vi 0, .slice none 0 0]) rfl rfl (by kernel_rfl) (fun b7 w7 hq7 hb7 he7 hz7 => ?_)
 replace hb7 : w7.heap[b7]? = some (.cells #[Vi 0, .slice none 0 0] 27 (0, 0)) := hb7
 refine inl1 ?_
 have hst := Stp.box (ls := [blk a0_5, [b2], M]) he7 hq7
 replace hs_p0_0 := hs_p0_0.step hst
 replace hb2 := he7.box hb2 nn
 replace hf5_1 := hf5_1.step hst he7 nn2
 replace hms := hms.box he7 hq7 hb7
 replace hfr := hfr.box hev.size hq7
 replace hev := hev.ext he7
 obtain ⟨w9, hr9, hb9, he9⟩ := store_boxagg 0 [Vi x4.1.1, .slice a0_5 (x4.1.2).length c0_5] #[Vi x4.1.1, .slice a0_5 (x4.1.2).length c0_5] tagg27 hb7 rfl rfl rfl
 refine x_store w9 (xv := Vp b7 0) (yv := .agg #[Vi x4.1.1, .slice a0_5 (x4.1.2).length c0_5]) rfl rfl rfl rfl hr9 ?_
 refine inl1 ?_
 have hst := Stp.ev' (ls := [[b7], blk a0_5, [b2], M]) he9 (mem_flat 0 rfl)
 replace hs_p0_0 := hs_p0_0.step hst
 replace hb2 := he9.box hb2 (hms.apart 2 0 rfl rfl rfl _ mem1)
 replace hf5_1 := hf5_1.step hst he9 (hms.apart 1 0 rfl rfl rfl)
 replace hms := hms.ev he9
 replace hev := hev.then he9 (fun b hb => .inr (hfr.at 0 rfl b hb))
 replace hb7 := hb9
 refine x_pure 1 [(5, Vi x4.2)] _ _ _ (by kernel_rfl) ?_
 refine x_ek ?_
 refine c_seq ?_
 refine c_sp ?_
 refine x_pure 2 [(11, Vi x4.2), (12, .bool (x4.2 != 0))] _ _ _ (by kernel_rfl) ?_
 refine x_ek ?_
 refine c_cond (x4.2 != 0) rfl (fun hb => ?_) (fun hb => ?_)
 · replace h := ite_t hb h
   refine c_sp ?_
   refine x_pure 3 [(13, Vi x4.2), (2, .slice none 0 0), (3, Vi x4.2)] _ _ _ (by kernel_rfl) ?_
   refine x_ek ?_
   refine c_norm [(2, .slice none 0 0), (3, Vi x4.2)] ⟨rfl, rfl, trivial⟩ (fun J => ?_)
   refine c_ret ?_
   refine k_then_ret ?_
   refine r_ret (r_vals [.slice none 0 0, Vi x4.2] ⟨rfl, rfl, trivial⟩ ?_)
   have hx := some_inj h
   subst hx
   have hmr : MS w9 [blk none, M] := hms.pick [none, some 3] _ rfl
   have hsu : ∀ x ∈ fl [blk none, M], x ∈ fl [[b7], blk a0_5, [b2], M] := pick_sub [none, some 3] _ rfl
   have hfe : FR w.heap.size [blk none] := hfr.pick [none] _ rfl
   exact ⟨none, 0, rfl, hev, hmr, hfe, OwnS.nil _ _ _ _⟩
 replace h := ite_f hb h
 refine c_skip ?_
 refine k_then ?_
 refine c_sp ?_
 refine x_load (xv := Vp b2 0) (.agg #[.slice a_p0_0 (p0_0).length c_p0_0, Vi p0_1]) rfl rfl rfl (reads_boxagg 0 [.slice a_p0_0 (p0_0).length c_p0_0, Vi p0_1] tagg25 hb2 nn rfl) ?_
 refine x_fieldAddr (xv := Vp b7 0) (Vp b7 1) rfl rfl rfl (reads_field tfld27_1 _ _) ?_
 refine x_load (xv := Vp b7 1) (.slice a0_5 (x4.1.2).length c0_5) rfl rfl rfl (reads_box tcell22 hb7 nn 1 _ rfl) ?_
 obtain ⟨x11, hx, h⟩ := bind_some h
 have hpk : MS w9 ([] ++ [[b7], [b2], M]) := hms.pick [some 0, some 2, some 3] _ rfl
 have hsb0 : ∀ x ∈ fl ([] ++ [[b7], [b2], M]), x ∈ fl [[b7], blk a0_5, [b2], M] := pick_sub [some 0, some 2, some 3] _ rfl
 have hsb : ∀ x ∈ fl ([] ++ [(fl [[b7], [b2], M])]), x ∈ fl [[b7], blk a0_5, [b2], M] := fun x hx => hsb0 x (fl_unfold x hx)
 have hcall := r11_Back_w a_p0_0 c_p0_0 p0_0 p0_1 a0_5 c0_5 x4.1.2 _ w9 (fl [[b7], [b2], M]) (MS.fold (P := []) hpk) (hs_p0_0.sub hsb) (hf5_1.ro hsb (fun b hb hb2 => pick_out hms 1 rfl [some 0, some 2, some 3] ([] ++ [[b7], [b2], M]) rfl rfl b hb (fl_unfold b hb2))) hx
 refine x_call 60 #[] #[] [.agg #[.slice a_p0_0 (p0_0).length c_p0_0, Vi p0_1], .slice a0_5 (x4.1.2).length c0_5] _ rfl rfl rfl rfl hcall ?_
 rintro v w12 ⟨a0_12, c0_12, rfl, he12, hmn12, hfn12, hf12_1⟩
 clear hcall hx
 refine inl1 ?_
 have hpk2 : MS w9 ([] ++ [[b7], blk a0_5, [b2], M]) := hms.pick [some 0, some 1, some 2, some 3] _ rfl
 have hsb2 : ∀ x ∈ fl ([] ++ [[b7], blk a0_5, [b2], M]), x ∈ fl [[b7], blk a0_5, [b2], M] := pick_sub [some 0, some 1, some 2, some 3] _ rfl
 have hst0 := Stp.call (LS := [[b7], blk a0_5, [b2], M]) (res := [blk a0_12]) (par := []) (R := [[b7], blk a0_5, [b2], M]) he12 (fun b hb => hsb2 b (fl_left' (P := []) b hb)) hfn12 (NP.init _ _) (fun x hx => hsb2 x (fl_right' (P := []) x hx))
 have hsn : ∀ x ∈ fl [blk a0_12, [b7], blk a0_5, [b2], M], x ∈ fl ([blk a0_12] ++ ([] ++ [[b7], blk a0_5, [b2], M])) := pick_sub [some 0, some 1, some 2, some 3, some 4] _ rfl
 have hst := hst0.res hsn
 replace hs_p0_0 := hs_p0_0.step hst
 replace hb2 := he12.box hb2 ((MS.outs (P := []) hpk2 2 rfl) _ mem1)
 replace hf5_1 := hf5_1.step hst he12 (MS.outs (P := []) hpk2 1 rfl)
 replace hb7 := he12.box hb7 ((MS.outs (P := []) hpk2 0 rfl) _ mem1)
 replace hms : MS w12 [blk a0_12, [b7], blk a0_5, [b2], M] := (MS.call (P := []) (R := [[b7], blk a0_5, [b2], M]) (res := [blk a0_12]) (par := []) hpk2 he12 hmn12 hfn12 (NP.init _ _)).pick [some 0, some 1, some 2, some 3, some 4] _ rfl
 have hfr2 : FR w.heap.size [blk a0_12, [b7], blk a0_5, [b2]] := (FR.cons (fun b hb => Nat.le_trans hev.size (hfn12.at 0 rfl b hb)) (FR.cons (hfr.at 0 rfl) (FR.cons (hfr.at 1 rfl) (FR.cons (hfr.at 2 rfl) (FR.nil _)))))
 replace hev := hev.ext he12
 replace hfr := hfr2
 clear hfr2
 replace hf12_1 := OwnS.plain (M' := fl [blk a0_12, [b7], blk a0_5, [b2], M]) (plain_int _) hf12_1
 clear hpk hsb hsb0 hpk2 hsb2 hst0 hsn hst
 refine x_pure 2 [(2, .slice a0_12 (x11).length c0_12), (3, Vi 0)] _ _ _ (by kernel_rfl) ?_
 refine x_ek ?_
 refine c_norm [(2, .slice a0_12 (x11).length c0_12), (3, Vi 0)] ⟨rfl, rfl, trivial⟩ (fun J => ?_)
 refine c_ret ?_
 refine r_ret (r_vals [.slice a0_12 (x11).length c0_12, Vi 0] ⟨rfl, rfl, trivial⟩ ?_)
 have hx := some_inj h
 subst hx
 have hmr : MS w12 [blk a0_12, M] := hms.pick [some 0, some 4] _ rfl
 have hsu : ∀ x ∈ fl [blk a0_12, M], x ∈ fl [blk a0_12, [b7], blk a0_5, [b2], M] := pick_sub [some 0, some 4] _ rfl
 have hfe : FR w.heap.size [blk a0_12] := hfr.pick [some 0] _ rfl
 exact ⟨a0_12, c0_12, rfl, hev, hmr, hfe, hf12_1.sub hsu⟩
def r13_Bound_J23 (p0_0 : List (Int × Int × Int × Int)) (p0_1 : Int) (p1 : List Int) (i_s9_l21 : Int) (n_s8_j23 : Int) : Option (Step (Int × Int) (Int ⊕ Int)) :=
((idx p1 i_s9_l21).bind fun x30 =>
((idx p0_0 x30).bind fun x32 =>
((r12_Next n_s8_j23 x32.2.2.1 p0_1).bind fun x34 =>
(if (x34.2 != 0) = true then
some (.done (.inl x34.2))
else
some (.next (x34.1, IntKind.i64.wrap (i_s9_l21 + 1)))))))

def r13_Bound_L21 (p0_0 : List (Int × Int × Int × Int)) (p0_1 : Int) (p1 : List Int) (s : Int × Int) : Option (Step (Int × Int) (Int ⊕ Int)) :=
match s with
| (n_s8_l21, i_s9_l21) =>
(if (decide (i_s9_l21 < ((p1).length : Int))) = true then
(if (decide (i_s9_l21 > 0)) = true then
((idx p1 (IntKind.i64.wrap (i_s9_l21 - 1))).bind fun x24 =>
((idx p1 i_s9_l21).bind fun x26 =>
((r11_Strict p0_0 p0_1 x24 x26).bind fun x28 =>
r13_Bound_J23 p0_0 p0_1 p1 i_s9_l21 (IntKind.i64.wrap (n_s8_l21 + x28)))))
else
r13_Bound_J23 p0_0 p0_1 p1 i_s9_l21 n_s8_l21)
else
some (.done (.inr n_s8_l21)))

def r13_Bound_L9 (p0_0 : List (Int × Int × Int × Int)) (p0_1 : Int) (p1 : List Int) (s : Int) : Option (Step Int (Unit ⊕ Unit)) :=
match s with
| i_s7_l9 =>
(if (decide (i_s7_l9 < ((p1).length : Int))) = true then
((idx p1 i_s7_l9).bind fun x11 =>
(if (decide (x11 < 0)) = true then
some (.done (.inl ()))
else
((idx p1 i_s7_l9).bind fun x13 =>
(if (decide (x13 ≥ ((p0_0).length : Int))) = true then
some (.done (.inl ()))
else
(if (decide (i_s7_l9 > 0)) = true then
((idx p1 (IntKind.i64.wrap (i_s7_l9 - 1))).bind fun x15 =>
((idx p1 i_s7_l9).bind fun x17 =>
((r11_Kind p0_0 p0_1 x15 x17).bind fun x19 =>
(if (x19 == 0) = true then
some (.done (.inl ()))
else
some (.next (IntKind.i64.wrap (i_s7_l9 + 1)))))))
else
some (.next (IntKind.i64.wrap (i_s7_l9 + 1))))))))
else
some (.done (.inr ())))

def r13_Bound (p0_0 : List (Int × Int × Int × Int)) (p0_1 : Int) (p1 : List Int) : Option (Int × Int) :=
((r11_Valid p0_0 p0_1).bind fun x6 =>
(if (x6 != 0) = true then
some (0, x6)
else
((loop (r13_Bound_L9 p0_0 p0_1 p1) 0).bind fun d => match d with
| (.inl _) => some (0, 1)
| (.inr _) => ((loop (r13_Bound_L21 p0_0 p0_1 p1) (0, 0)).bind fun d => match d with
| (.inl t5__s5_x2100) => some (0, t5__s5_x2100)
| (.inr n_s8_x2101) => some (n_s8_x2101, 0)))))

theorem r13_Bound_w (a_p0_0 : Option Addr) (c_p0_0 : Nat) (p0_0 : List (Int × Int × Int × Int)) (p0_1 : Int) (a_p1 : Option Addr) (c_p1 : Nat) (p1 : List Int) (r : Int × Int) (w : World) (M : List Nat) (hms : MS w [M]) (hs_p0_0 : SlR (eIt4) w (fl [M]) a_p0_0 c_p0_0 p0_0) (hs_p1 : SlR (eInt .i64) w (fl [M]) a_p1 c_p1 p1) (h : r13_Bound p0_0 p0_1 p1 = some r) : CallVC Try.prog 43 [.agg #[.slice a_p0_0 (p0_0).length c_p0_0, Vi p0_1], .slice a_p1 (p1).length c_p1] w fun v w' => v = .tuple #[Vi r.1, Vi r.2] ∧ Ev [] w w' := by
 refine calls_vc hmx Try.func43 (by kernel_rfl) rfl (rs := [.tmp 4, .tmp 5]) rfl (by kernel_rfl) (args := [.agg #[.slice a_p0_0 (p0_0).length c_p0_0, Vi p0_1], .slice a_p1 (p1).length c_p1]) rfl ?_
 have hev : Ev [] w w := Ev.refl _ _
 have hfr : FR w.heap.size [] := FR.nil _
 refine c_sp ?_
 refine x_box (xv := .agg #[.slice a_p0_0 (p0_0).length c_p0_0, Vi p0_1]) rfl rfl rfl (fun b3 w3 hq3 hb3 he3 hz3 => ?_)
 replace hb3 : w3.heap[b3]? = some (.cells #[.slice a_p0_0 (p0_0).length c_p0_0, Vi p0_1] 25 (0, 0)) := hb3
 refine inl1 ?_
 have hst := Stp.box (ls := [M]) he3 hq3
 replace hs_p0_0 := hs_p0_0.step hst
 replace hs_p1 := hs_p1.step hst
 replace hms := hms.box he3 hq3 hb3
 replace hfr := hfr.box hev.size hq3
 replace hev := hev.ext he3
 refine x_pure 2 [(4, Vi 0), (5, Vi 0)] _ _ _ (by kernel_rfl) ?_
 refine x_ek ?_
 refine c_seq ?_
 refine c_sp ?_
 refine x_load (xv := Vp b3 0) (.agg #[.slice a_p0_0 (p0_0).length c_p0_0, Vi p0_1]) rfl rfl rfl (reads_boxagg 0 [.slice a_p0_0 (p0_0).length c_p0_0, Vi p0_1] tagg25 hb3 nn rfl) ?_
 obtain ⟨x6, hx, h⟩ := bind_some h
 have hpk : MS w3 ([] ++ [[b3], M]) := hms.pick [some 0, some 1] _ rfl
 have hsb0 : ∀ x ∈ fl ([] ++ [[b3], M]), x ∈ fl [[b3], M] := pick_sub [some 0, some 1] _ rfl
 have hsb : ∀ x ∈ fl ([] ++ [(fl [[b3], M])]), x ∈ fl [[b3], M] := fun x hx => hsb0 x (fl_unfold x hx)
 have hcall := r11_Valid_w a_p0_0 c_p0_0 p0_0 p0_1 _ w3 (fl [[b3], M]) (MS.fold (P := []) hpk) (hs_p0_0.sub hsb) hx
 refine x_call 57 #[] #[] [.agg #[.slice a_p0_0 (p0_0).length c_p0_0, Vi p0_1]] _ rfl rfl rfl rfl hcall ?_
 rintro v w7 ⟨rfl, he7⟩
 clear hcall hx
 refine inl1 ?_
 have hst := Stp.ext (ls := [[b3], M]) he7
 replace hs_p0_0 := hs_p0_0.step hst
 replace hs_p1 := hs_p1.step hst
 replace hb3 := he7.box hb3 nn
 replace hms := hms.ev he7
 replace hev := hev.ext he7
 clear hpk hsb hsb0
 refine x_pure 1 [(6, Vi x6)] _ _ _ (by kernel_rfl) ?_
 refine x_ek ?_
 refine c_sp ?_
 refine x_pure 2 [(14, Vi x6), (15, .bool (x6 != 0))] _ _ _ (by kernel_rfl) ?_
 refine x_ek ?_
 refine c_cond (x6 != 0) rfl (fun hb => ?_) (fun hb => ?_)
 · replace h := ite_t hb h
   refine c_sp ?_
   refine x_pure 3 [(16, Vi x6), (4, Vi 0), (5, Vi x6)] _ _ _ (by kernel_rfl) ?_
   refine x_ek ?_
   refine c_ret ?_
   refine k_then_ret ?_
   refine r_ret (r_vals [Vi 0, Vi x6] ⟨rfl, rfl, trivial⟩ ?_)
   have hx := some_inj h
   subst hx
   have hmr : MS w7 [M] := hms.pick [some 1] _ rfl
   have hsu : ∀ x ∈ fl [M], x ∈ fl [[b3], M] := pick_sub [some 1] _ rfl
   exact ⟨rfl, hev⟩
 replace h := ite_f hb h
 refine c_skip ?_
 refine k_then ?_
 refine c_seq ?_
 refine c_sp ?_
 refine x_pure 1 [(7, Vi 0)] _ _ _ (by kernel_rfl) ?_
 refine x_ek ?_
 refine c_block ?_
 obtain ⟨d9, hd9, h9⟩ := bind_some h
 obtain ⟨m9, hd9⟩ := loop_some hd9
 refine c_loop (loop_rule hmx (σ := Nat × Int) (fun s => match s with | (_, i_s7_l9) => [(1, .slice a_p1 (p1).length c_p1), (2, Vp b3 0), (7, Vi i_s7_l9)]) (fun s w' => match s with | (m, i_s7_l9) => loopN (r13_Bound_L9 p0_0 p0_1 p1) m i_s7_l9 = some d9 ∧ Ev [] w w' ∧ MS w' [[b3], M] ∧ FR w.heap.size [[b3]] ∧ SlR (eInt .i64) w' (fl [[b3], M]) a_p1 c_p1 p1 ∧ SlR (eIt4) w' (fl [[b3], M]) a_p0_0 c_p0_0 p0_0 ∧ w'.heap[b3]? = some (.cells #[.slice a_p0_0 (p0_0).length c_p0_0, Vi p0_1] 25 (0, 0))) (fun s => s.1) (m9, 0) ⟨rfl, rfl, rfl, trivial⟩ ⟨hd9, hev, hms, hfr, hs_p1, hs_p0_0, hb3⟩ ?_)
 rintro ⟨m9, i_s7_l9⟩ J wl9 ⟨hn9, hev, hms, hfr, hs_p1, hs_p0_0, hb3⟩
 rcases m9 with _ | m9
 · exact (loopN_zero hn9).elim
 obtain ⟨t9, h, hn9⟩ := bind_some hn9
 refine c_seq ?_
 refine c_sp ?_
 refine x_pure 2 [(17, Vi i_s7_l9), (18, .slice a_p1 (p1).length c_p1)] _ _ _ (by kernel_rfl) ?_
 refine x_len (vs := [.slice a_p1 (p1).length c_p1]) (Vi ((p1).length : Int)) rfl rfl rfl (reads_len tsl22 _ _ _ _ _) ?_
 refine x_pure 1 [(20, .bool (decide (i_s7_l9 < ((p1).length : Int))))] _ _ _ (by kernel_rfl) ?_
 refine x_ek ?_
 refine c_norm [(1, .slice a_p1 (p1).length c_p1), (2, Vp b3 0), (7, Vi i_s7_l9), (20, .bool (decide (i_s7_l9 < ((p1).length : Int))))] ⟨rfl, rfl, rfl, rfl, trivial⟩ (fun J => ?_)
 refine c_cond (decide (i_s7_l9 < ((p1).length : Int))) rfl (fun hb => ?_) (fun hb => ?_)
 · replace h := ite_t hb h
   refine c_skip ?_
   refine k_then ?_
   refine c_seq ?_
   refine c_block ?_
   refine c_seq ?_
   refine c_drawn [] [(0, false), (1, false), (2, false), (3, false), (4, false), (5, false), (6, false), (7, false), (8, false), (9, false), (10, false), (11, false), (12, false), (13, false), (14, false), (15, false), (16, false), (17, false), (18, false), (19, false), (20, false), (21, false), (22, false), (23, false), (24, false), (25, false), (26, false), (27, false), (28, false), (29, false), (30, false), (31, false), (32, false)] _ (by kernel_rfl) rfl ?_
   have hst := Stp.ext (ls := [[b3], M]) (Ev.drew wl9)
   replace hs_p1 := hs_p1.step hst
   replace hb3 := (Ev.drew wl9).box hb3 nn
   replace hs_p0_0 := hs_p0_0.step hst
   replace hms := hms.ev (Ev.drew wl9)
   replace hev := hev.ext (Ev.drew wl9)
   refine x_pure 2 [(23, .slice a_p1 (p1).length c_p1), (24, Vi i_s7_l9)] _ _ _ (by kernel_rfl) ?_
   obtain ⟨x11, hx11, h⟩ := bind_some h
   obtain ⟨ad11, cs11, hr11, hc11, hR⟩ := reads_index (Mo := []) tsl22 hs_p1 hx11
   obtain rfl := hR
   refine x_indexAddr (xv := .slice a_p1 (p1).length c_p1) (yv := Vi i_s7_l9) (.pointer (some ad11)) rfl rfl rfl rfl hr11 ?_
   refine x_load (xv := .pointer (some ad11)) (Vi x11) rfl rfl rfl (reads_cell0 tcell3 hc11 (fun _ h => by cases h)) ?_
   refine x_pure 2 [(27, .bool (decide (x11 < 0))), (28, .bool (decide (x11 < 0)))] _ _ _ (by kernel_rfl) ?_
   refine x_split 28 (decide (x11 < 0)) rfl (fun hb => ?_) (fun hb => ?_)
   · replace h := ite_t hb h
     refine x_pure 27 [(29, undef), (30, undef), (31, undef), (32, undef), (33, undef), (34, undef), (35, undef), (36, undef), (37, .bool true), (38, .bool true), (39, undef), (40, undef), (41, undef), (42, undef), (43, undef), (44, undef), (45, undef), (46, undef), (47, undef), (48, undef), (49, undef), (50, undef), (51, undef), (52, undef), (53, undef), (54, undef), (55, .bool true)] _ _ _ (by kernel_rfl) ?_
     refine x_ek ?_
     refine c_norm [(1, .slice a_p1 (p1).length c_p1), (2, Vp b3 0), (7, Vi i_s7_l9), (55, .bool true)] ⟨rfl, rfl, rfl, rfl, trivial⟩ (fun J => ?_)
     refine c_true rfl ?_
     refine c_sp ?_
     refine x_pure 2 [(4, Vi 0), (5, Vi 1)] _ _ _ (by kernel_rfl) ?_
     refine x_ek ?_
     refine c_ret ?_
     refine k_block_ret ?_
     refine k_then_ret ?_
     have hx := some_inj h
     subst hx
     have hy := some_inj hn9
     subst hy
     replace h := h9
     refine k_then_ret ?_
     refine k_block_ret ?_
     refine k_then_ret ?_
     refine r_ret (r_vals [Vi 0, Vi 1] ⟨rfl, rfl, trivial⟩ ?_)
     have hx := some_inj h
     subst hx
     have hmr : MS (wl9).drew [M] := hms.pick [some 1] _ rfl
     have hsu : ∀ x ∈ fl [M], x ∈ fl [[b3], M] := pick_sub [some 1] _ rfl
     exact ⟨rfl, hev⟩
   replace h := ite_f hb h
   refine x_pure 2 [(29, .slice a_p1 (p1).length c_p1), (30, Vi i_s7_l9)] _ _ _ (by kernel_rfl) ?_
   obtain ⟨x13, hx13, h⟩ := bind_some h
   obtain ⟨ad13, cs13, hr13, hc13, hR⟩ := reads_index (Mo := []) tsl22 hs_p1 hx13
   obtain rfl := hR
   refine x_indexAddr (xv := .slice a_p1 (p1).length c_p1) (yv := Vi i_s7_l9) (.pointer (some ad13)) rfl rfl rfl rfl hr13 ?_
   refine x_load (xv := .pointer (some ad13)) (Vi x13) rfl rfl rfl (reads_cell0 tcell3 hc13 (fun _ h => by cases h)) ?_
   refine x_fieldAddr (xv := Vp b3 0) (Vp b3 0) rfl rfl rfl (reads_field tfld25_0 _ _) ?_
   refine x_load (xv := Vp b3 0) (.slice a_p0_0 (p0_0).length c_p0_0) rfl rfl rfl (reads_box tcell23 hb3 nn 0 _ rfl) ?_
   refine x_len (vs := [.slice a_p0_0 (p0_0).length c_p0_0]) (Vi ((p0_0).length : Int)) rfl rfl rfl (reads_len tsl23 _ _ _ _ _) ?_
   refine x_pure 3 [(36, .bool (decide (x13 ≥ ((p0_0).length : Int)))), (37, .bool (decide (x13 ≥ ((p0_0).length : Int)))), (38, .bool (decide (x13 ≥ ((p0_0).length : Int))))] _ _ _ (by kernel_rfl) ?_
   refine x_split 38 (decide (x13 ≥ ((p0_0).length : Int))) rfl (fun hb => ?_) (fun hb => ?_)
   · replace h := ite_t hb h
     refine x_pure 17 [(39, undef), (40, undef), (41, undef), (42, undef), (43, undef), (44, undef), (45, undef), (46, undef), (47, undef), (48, undef), (49, undef), (50, undef), (51, undef), (52, undef), (53, undef), (54, undef), (55, .bool true)] _ _ _ (by kernel_rfl) ?_
     refine x_ek ?_
     refine c_norm [(1, .slice a_p1 (p1).length c_p1), (2, Vp b3 0), (7, Vi i_s7_l9), (55, .bool true)] ⟨rfl, rfl, rfl, rfl, trivial⟩ (fun J => ?_)
     refine c_true rfl ?_
     refine c_sp ?_
     refine x_pure 2 [(4, Vi 0), (5, Vi 1)] _ _ _ (by kernel_rfl) ?_
     refine x_ek ?_
     refine c_ret ?_
     refine k_block_ret ?_
     refine k_then_ret ?_
     have hx := some_inj h
     subst hx
     have hy := some_inj hn9
     subst hy
     replace h := h9
     refine k_then_ret ?_
     refine k_block_ret ?_
     refine k_then_ret ?_
     refine r_ret (r_vals [Vi 0, Vi 1] ⟨rfl, rfl, trivial⟩ ?_)
     have hx := some_inj h
     subst hx
     have hmr : MS (wl9).drew [M] := hms.pick [some 1] _ rfl
     have hsu : ∀ x ∈ fl [M], x ∈ fl [[b3], M] := pick_sub [some 1] _ rfl
     exact ⟨rfl, hev⟩
   replace h := ite_f hb h
   refine x_pure 3 [(39, Vi i_s7_l9), (40, .bool (decide (i_s7_l9 > 0))), (41, .bool (decide (i_s7_l9 > 0)))] _ _ _ (by kernel_rfl) ?_
   refine x_split 41 (decide (i_s7_l9 > 0)) rfl (fun hb => ?_) (fun hb => ?_)
   · replace h := ite_t hb h
     refine x_load (xv := Vp b3 0) (.agg #[.slice a_p0_0 (p0_0).length c_p0_0, Vi p0_1]) rfl rfl rfl (reads_boxagg 0 [.slice a_p0_0 (p0_0).length c_p0_0, Vi p0_1] tagg25 hb3 nn rfl) ?_
     refine x_pure 3 [(43, .slice a_p1 (p1).length c_p1), (44, Vi i_s7_l9), (45, Vi (IntKind.i64.wrap (i_s7_l9 - 1)))] _ _ _ (by kernel_rfl) ?_
     obtain ⟨x15, hx15, h⟩ := bind_some h
     obtain ⟨ad15, cs15, hr15, hc15, hR⟩ := reads_index (Mo := []) tsl22 hs_p1 hx15
     obtain rfl := hR
     refine x_indexAddr (xv := .slice a_p1 (p1).length c_p1) (yv := Vi (IntKind.i64.wrap (i_s7_l9 - 1))) (.pointer (some ad15)) rfl rfl rfl rfl hr15 ?_
     refine x_load (xv := .pointer (some ad15)) (Vi x15) rfl rfl rfl (reads_cell0 tcell3 hc15 (fun _ h => by cases h)) ?_
     refine x_pure 2 [(48, .slice a_p1 (p1).length c_p1), (49, Vi i_s7_l9)] _ _ _ (by kernel_rfl) ?_
     obtain ⟨x17, hx17, h⟩ := bind_some h
     obtain ⟨ad17, cs17, hr17, hc17, hR⟩ := reads_index (Mo := []) tsl22 hs_p1 hx17
     obtain rfl := hR
     refine x_indexAddr (xv := .slice a_p1 (p1).length c_p1) (yv := Vi i_s7_l9) (.pointer (some ad17)) rfl rfl rfl rfl hr17 ?_
     refine x_load (xv := .pointer (some ad17)) (Vi x17) rfl rfl rfl (reads_cell0 tcell3 hc17 (fun _ h => by cases h)) ?_
     obtain ⟨x19, hx, h⟩ := bind_some h
     have hpk : MS (wl9).drew ([] ++ [[b3], M]) := hms.pick [some 0, some 1] _ rfl
     have hsb0 : ∀ x ∈ fl ([] ++ [[b3], M]), x ∈ fl [[b3], M] := pick_sub [some 0, some 1] _ rfl
     have hsb : ∀ x ∈ fl ([] ++ [(fl [[b3], M])]), x ∈ fl [[b3], M] := fun x hx => hsb0 x (fl_unfold x hx)
     have hcall := r11_Kind_w a_p0_0 c_p0_0 p0_0 p0_1 x15 x17 _ (wl9).drew (fl [[b3], M]) (MS.fold (P := []) hpk) (hs_p0_0.sub hsb) hx
     refine x_call 18 #[] #[] [.agg #[.slice a_p0_0 (p0_0).length c_p0_0, Vi p0_1], Vi x15, Vi x17] _ rfl rfl rfl rfl hcall ?_
     rintro v w20 ⟨rfl, he20⟩
     clear hcall hx
     refine ⟨.inr he20, ?_⟩
     have hst := Stp.ext (ls := [[b3], M]) he20
     replace hs_p1 := hs_p1.step hst
     replace hb3 := he20.box hb3 nn
     replace hs_p0_0 := hs_p0_0.step hst
     replace hc11 := hc11.step hst
     replace hc13 := hc13.step hst
     replace hc15 := hc15.step hst
     replace hc17 := hc17.step hst
     replace hms := hms.ev he20
     replace hev := hev.ext he20
     clear hpk hsb hsb0
     refine x_pure 3 [(53, .bool (x19 == 0)), (54, .bool (x19 == 0)), (55, .bool (x19 == 0))] _ _ _ (by kernel_rfl) ?_
     refine x_ek ?_
     refine c_norm [(1, .slice a_p1 (p1).length c_p1), (2, Vp b3 0), (7, Vi i_s7_l9), (55, .bool (x19 == 0))] ⟨rfl, rfl, rfl, rfl, trivial⟩ (fun J => ?_)
     refine c_cond (x19 == 0) rfl (fun hb => ?_) (fun hb => ?_)
     · replace h := ite_t hb h
       refine c_sp ?_
       refine x_pure 2 [(4, Vi 0), (5, Vi 1)] _ _ _ (by kernel_rfl) ?_
       refine x_ek ?_
       refine c_ret ?_
       refine k_block_ret ?_
       refine k_then_ret ?_
       have hx := some_inj h
       subst hx
       have hy := some_inj hn9
       subst hy
       replace h := h9
       refine k_then_ret ?_
       refine k_block_ret ?_
       refine k_then_ret ?_
       refine r_ret (r_vals [Vi 0, Vi 1] ⟨rfl, rfl, trivial⟩ ?_)
       have hx := some_inj h
       subst hx
       have hmr : MS w20 [M] := hms.pick [some 1] _ rfl
       have hsu : ∀ x ∈ fl [M], x ∈ fl [[b3], M] := pick_sub [some 1] _ rfl
       exact ⟨rfl, hev⟩
     replace h := ite_f hb h
     refine c_skip ?_
     refine k_block ?_
     refine k_then ?_
     refine c_plain ?_
     refine x_pure 3 [(21, Vi i_s7_l9), (22, Vi (IntKind.i64.wrap (i_s7_l9 + 1))), (7, Vi (IntKind.i64.wrap (i_s7_l9 + 1)))] _ _ _ (by kernel_rfl) ?_
     refine x_end rfl ?_
     have hx := some_inj h
     subst hx
     exact k_then ⟨(m9, IntKind.i64.wrap (i_s7_l9 + 1)), ⟨rfl, rfl, rfl, trivial⟩, ⟨hn9, hev, hms, hfr, hs_p1, hs_p0_0, hb3⟩, Nat.lt_succ_self _⟩
   replace h := ite_f hb h
   refine x_pure 14 [(42, undef), (43, undef), (44, undef), (45, undef), (46, undef), (47, undef), (48, undef), (49, undef), (50, undef), (51, undef), (52, undef), (53, undef), (54, .bool false), (55, .bool false)] _ _ _ (by kernel_rfl) ?_
   refine x_ek ?_
   refine c_norm [(1, .slice a_p1 (p1).length c_p1), (2, Vp b3 0), (7, Vi i_s7_l9), (55, .bool false)] ⟨rfl, rfl, rfl, rfl, trivial⟩ (fun J => ?_)
   refine c_false rfl ?_
   refine c_skip ?_
   refine k_block ?_
   refine k_then ?_
   refine c_plain ?_
   refine x_pure 3 [(21, Vi i_s7_l9), (22, Vi (IntKind.i64.wrap (i_s7_l9 + 1))), (7, Vi (IntKind.i64.wrap (i_s7_l9 + 1)))] _ _ _ (by kernel_rfl) ?_
   refine x_end rfl ?_
   have hx := some_inj h
   subst hx
   exact k_then ⟨(m9, IntKind.i64.wrap (i_s7_l9 + 1)), ⟨rfl, rfl, rfl, trivial⟩, ⟨hn9, hev, hms, hfr, hs_p1, hs_p0_0, hb3⟩, Nat.lt_succ_self _⟩
 replace h := ite_f hb h
 refine c_exit ?_
 refine k_then_exit ?_
 have hx := some_inj h
 subst hx
 have hy := some_inj hn9
 subst hy
 replace h := h9
 refine k_then_exit ?_
 refine k_block_in ?_
 refine k_then ?_
 refine c_norm [(1, .slice a_p1 (p1).length c_p1), (2, Vp b3 0)] ⟨rfl, rfl, trivial⟩ (fun J => ?_)
 refine c_sp ?_
 refine x_pure 1 [(8, Vi 0)] _ _ _ (by kernel_rfl) ?_
 refine x_ek ?_
 refine c_seq ?_
 refine c_sp ?_
 refine x_pure 1 [(9, Vi 0)] _ _ _ (by kernel_rfl) ?_
 refine x_ek ?_
 refine c_block ?_
 obtain ⟨d21, hd21, h21⟩ := bind_some h
 obtain ⟨m21, hd21⟩ := loop_some hd21
 refine c_loop (loop_rule hmx (σ := Nat × Int × Int) (fun s => match s with | (_, n_s8_l21, i_s9_l21) => [(1, .slice a_p1 (p1).length c_p1), (2, Vp b3 0), (8, Vi n_s8_l21), (9, Vi i_s9_l21)]) (fun s w' => match s with | (m, n_s8_l21, i_s9_l21) => loopN (r13_Bound_L21 p0_0 p0_1 p1) m (n_s8_l21, i_s9_l21) = some d21 ∧ Ev [] w w' ∧ MS w' [[b3], M] ∧ FR w.heap.size [[b3]] ∧ SlR (eInt .i64) w' (fl [[b3], M]) a_p1 c_p1 p1 ∧ SlR (eIt4) w' (fl [[b3], M]) a_p0_0 c_p0_0 p0_0 ∧ w'.heap[b3]? = some (.cells #[.slice a_p0_0 (p0_0).length c_p0_0, Vi p0_1] 25 (0, 0))) (fun s => s.1) (m21, 0, 0) ⟨rfl, rfl, rfl, rfl, trivial⟩ ⟨hd21, hev, hms, hfr, hs_p1, hs_p0_0, hb3⟩ ?_)
 rintro ⟨m21, n_s8_l21, i_s9_l21⟩ J wl21 ⟨hn21, hev, hms, hfr, hs_p1, hs_p0_0, hb3⟩
 rcases m21 with _ | m21
 · exact (loopN_zero hn21).elim
 obtain ⟨t21, h, hn21⟩ := bind_some hn21
 refine c_seq ?_
 refine c_sp ?_
 refine x_pure 2 [(56, Vi i_s9_l21), (57, .slice a_p1 (p1).length c_p1)] _ _ _ (by kernel_rfl) ?_
 refine x_len (vs := [.slice a_p1 (p1).length c_p1]) (Vi ((p1).length : Int)) rfl rfl rfl (reads_len tsl22 _ _ _ _ _) ?_
 refine x_pure 1 [(59, .bool (decide (i_s9_l21 < ((p1).length : Int))))] _ _ _ (by kernel_rfl) ?_
 refine x_ek ?_
 refine c_norm [(1, .slice a_p1 (p1).length c_p1), (2, Vp b3 0), (8, Vi n_s8_l21), (9, Vi i_s9_l21), (59, .bool (decide (i_s9_l21 < ((p1).length : Int))))] ⟨rfl, rfl, rfl, rfl, rfl, trivial⟩ (fun J => ?_)
 refine c_cond (decide (i_s9_l21 < ((p1).length : Int))) rfl (fun hb => ?_) (fun hb => ?_)
 · replace h := ite_t hb h
   refine c_skip ?_
   refine k_then ?_
   refine c_seq ?_
   refine c_block ?_
   refine c_join (σ := Int) (fun s => match s with | n_s8_j23 => [(1, .slice a_p1 (p1).length c_p1), (2, Vp b3 0), (8, Vi n_s8_j23), (9, Vi i_s9_l21)]) (fun s w' => match s with | n_s8_j23 => r13_Bound_J23 p0_0 p0_1 p1 i_s9_l21 n_s8_j23 = some t21 ∧ Ev [] w w' ∧ MS w' [[b3], M] ∧ FR w.heap.size [[b3]] ∧ SlR (eInt .i64) w' (fl [[b3], M]) a_p1 c_p1 p1 ∧ SlR (eIt4) w' (fl [[b3], M]) a_p0_0 c_p0_0 p0_0 ∧ w'.heap[b3]? = some (.cells #[.slice a_p0_0 (p0_0).length c_p0_0, Vi p0_1] 25 (0, 0))) ?_ ?_
   · refine c_sp ?_
     refine x_pure 2 [(62, Vi i_s9_l21), (63, .bool (decide (i_s9_l21 > 0)))] _ _ _ (by kernel_rfl) ?_
     refine x_ek ?_
     refine c_cond (decide (i_s9_l21 > 0)) rfl (fun hb => ?_) (fun hb => ?_)
     · replace h := ite_t hb h
       refine c_drawn [] [(0, false), (1, false), (2, false), (3, false), (4, false), (5, false), (6, false), (7, false), (8, false), (9, false), (10, false), (11, false), (12, false), (13, false)] _ (by kernel_rfl) rfl ?_
       have hst := Stp.ext (ls := [[b3], M]) (Ev.drew wl21)
       replace hs_p1 := hs_p1.step hst
       replace hb3 := (Ev.drew wl21).box hb3 nn
       replace hs_p0_0 := hs_p0_0.step hst
       replace hms := hms.ev (Ev.drew wl21)
       replace hev := hev.ext (Ev.drew wl21)
       refine x_pure 1 [(64, Vi n_s8_l21)] _ _ _ (by kernel_rfl) ?_
       refine x_load (xv := Vp b3 0) (.agg #[.slice a_p0_0 (p0_0).length c_p0_0, Vi p0_1]) rfl rfl rfl (reads_boxagg 0 [.slice a_p0_0 (p0_0).length c_p0_0, Vi p0_1] tagg25 hb3 nn rfl) ?_
       refine x_pure 3 [(66, .slice a_p1 (p1).length c_p1), (67, Vi i_s9_l21), (68, Vi (IntKind.i64.wrap (i_s9_l21 - 1)))] _ _ _ (by kernel_rfl) ?_
       obtain ⟨x24, hx24, h⟩ := bind_some h
       obtain ⟨ad24, cs24, hr24, hc24, hR⟩ := reads_index (Mo := []) tsl22 hs_p1 hx24
       obtain rfl := hR
       refine x_indexAddr (xv := .slice a_p1 (p1).length c_p1) (yv := Vi (IntKind.i64.wrap (i_s9_l21 - 1))) (.pointer (some ad24)) rfl rfl rfl rfl hr24 ?_
       refine x_load (xv := .pointer (some ad24)) (Vi x24) rfl rfl rfl (reads_cell0 tcell3 hc24 (fun _ h => by cases h)) ?_
       refine x_pure 2 [(71, .slice a_p1 (p1).length c_p1), (72, Vi i_s9_l21)] _ _ _ (by kernel_rfl) ?_
       obtain ⟨x26, hx26, h⟩ := bind_some h
       obtain ⟨ad26, cs26, hr26, hc26, hR⟩ := reads_index (Mo := []) tsl22 hs_p1 hx26
       obtain rfl := hR
       refine x_indexAddr (xv := .slice a_p1 (p1).length c_p1) (yv := Vi i_s9_l21) (.pointer (some ad26)) rfl rfl rfl rfl hr26 ?_
       refine x_load (xv := .pointer (some ad26)) (Vi x26) rfl rfl rfl (reads_cell0 tcell3 hc26 (fun _ h => by cases h)) ?_
       obtain ⟨x28, hx, h⟩ := bind_some h
       have hpk : MS (wl21).drew ([] ++ [[b3], M]) := hms.pick [some 0, some 1] _ rfl
       have hsb0 : ∀ x ∈ fl ([] ++ [[b3], M]), x ∈ fl [[b3], M] := pick_sub [some 0, some 1] _ rfl
       have hsb : ∀ x ∈ fl ([] ++ [(fl [[b3], M])]), x ∈ fl [[b3], M] := fun x hx => hsb0 x (fl_unfold x hx)
       have hcall := r11_Strict_w a_p0_0 c_p0_0 p0_0 p0_1 x24 x26 _ (wl21).drew (fl [[b3], M]) (MS.fold (P := []) hpk) (hs_p0_0.sub hsb) hx
       refine x_call 19 #[] #[] [.agg #[.slice a_p0_0 (p0_0).length c_p0_0, Vi p0_1], Vi x24, Vi x26] _ rfl rfl rfl rfl hcall ?_
       rintro v w29 ⟨rfl, he29⟩
       clear hcall hx
       refine ⟨.inr he29, ?_⟩
       have hst := Stp.ext (ls := [[b3], M]) he29
       replace hs_p1 := hs_p1.step hst
       replace hb3 := he29.box hb3 nn
       replace hs_p0_0 := hs_p0_0.step hst
       replace hc24 := hc24.step hst
       replace hc26 := hc26.step hst
       replace hms := hms.ev he29
       replace hev := hev.ext he29
       clear hpk hsb hsb0
       refine x_pure 2 [(76, Vi (IntKind.i64.wrap (n_s8_l21 + x28))), (8, Vi (IntKind.i64.wrap (n_s8_l21 + x28)))] _ _ _ (by kernel_rfl) ?_
       refine x_end rfl ?_
       exact k_then ⟨IntKind.i64.wrap (n_s8_l21 + x28), ⟨rfl, rfl, rfl, rfl, trivial⟩, h, hev, hms, hfr, hs_p1, hs_p0_0, hb3⟩
     replace h := ite_f hb h
     refine c_skip ?_
     exact k_then ⟨n_s8_l21, ⟨rfl, rfl, rfl, rfl, trivial⟩, h, hev, hms, hfr, hs_p1, hs_p0_0, hb3⟩
   rintro n_s8_j23 J wj23 ⟨h, hev, hms, hfr, hs_p1, hs_p0_0, hb3⟩
   refine c_seq ?_
   refine c_drawn [] [(0, false), (1, false), (2, false), (3, false), (4, false), (5, false), (6, false), (7, false), (8, false), (9, false), (10, false), (11, false), (12, false), (13, false), (14, false), (15, false), (16, false), (17, false)] _ (by kernel_rfl) rfl ?_
   have hst := Stp.ext (ls := [[b3], M]) (Ev.drew wj23)
   replace hs_p1 := hs_p1.step hst
   replace hb3 := (Ev.drew wj23).box hb3 nn
   replace hs_p0_0 := hs_p0_0.step hst
   replace hms := hms.ev (Ev.drew wj23)
   replace hev := hev.ext (Ev.drew wj23)
   refine x_pure 1 [(78, Vi n_s8_j23)] _ _ _ (by kernel_rfl) ?_
   refine x_fieldAddr (xv := Vp b3 0) (Vp b3 0) rfl rfl rfl (reads_field tfld25_0 _ _) ?_
   refine x_load (xv := Vp b3 0) (.slice a_p0_0 (p0_0).length c_p0_0) rfl rfl rfl (reads_box tcell23 hb3 nn 0 _ rfl) ?_
   refine x_pure 2 [(81, .slice a_p1 (p1).length c_p1), (82, Vi i_s9_l21)] _ _ _ (by kernel_rfl) ?_
   obtain ⟨x30, hx30, h⟩ := bind_some h
   obtain ⟨ad30, cs30, hr30, hc30, hR⟩ := reads_index (Mo := []) tsl22 hs_p1 hx30
   obtain rfl := hR
   refine x_indexAddr (xv := .slice a_p1 (p1).length c_p1) (yv := Vi i_s9_l21) (.pointer (some ad30)) rfl rfl rfl rfl hr30 ?_
   refine x_load (xv := .pointer (some ad30)) (Vi x30) rfl rfl rfl (reads_cell0 tcell3 hc30 (fun _ h => by cases h)) ?_
   obtain ⟨x32, hx32, h⟩ := bind_some h
   obtain ⟨ad32, cs32, hr32, hc32, hR⟩ := reads_index (Mo := []) tsl23 hs_p0_0 hx32
   obtain ⟨_, _, rfl, rfl, ⟨_, _, rfl, rfl, ⟨_, _, rfl, rfl, rfl⟩⟩⟩ := hR
   refine x_indexAddr (xv := .slice a_p0_0 (p0_0).length c_p0_0) (yv := Vi x30) (.pointer (some ad32)) rfl rfl rfl rfl hr32 ?_
   refine x_fieldAddr (xv := .pointer (some ad32)) (.pointer (some (Addr.add ad32 2))) rfl rfl rfl (reads_field tfld79_2 _ _) ?_
   refine x_load (xv := .pointer (some (Addr.add ad32 2))) (Vi x32.2.2.1) rfl rfl rfl (reads_cell tcell3 hc32 (fun _ h => by cases h) 2 _ rfl) ?_
   refine x_fieldAddr (xv := Vp b3 0) (Vp b3 1) rfl rfl rfl (reads_field tfld25_1 _ _) ?_
   refine x_load (xv := Vp b3 1) (Vi p0_1) rfl rfl rfl (reads_box tcell3 hb3 nn 1 _ rfl) ?_
   obtain ⟨x34, hx, h⟩ := bind_some h
   have hcall := r12_Next_w n_s8_j23 x32.2.2.1 p0_1 _ (wj23).drew hx
   refine x_call 58 #[] #[] [Vi n_s8_j23, Vi x32.2.2.1, Vi p0_1] _ rfl rfl rfl rfl hcall ?_
   rintro v w35 ⟨rfl, he35⟩
   clear hcall hx
   refine ⟨.inr he35, ?_⟩
   have hst := Stp.ext (ls := [[b3], M]) he35
   replace hs_p1 := hs_p1.step hst
   replace hb3 := he35.box hb3 nn
   replace hs_p0_0 := hs_p0_0.step hst
   replace hc30 := hc30.step hst
   replace hc32 := hc32.step hst
   replace hms := hms.ev he35
   replace hev := hev.ext he35
   refine x_pure 5 [(77, .tuple #[Vi x34.1, Vi x34.2]), (91, Vi x34.1), (92, Vi x34.2), (10, Vi x34.1), (11, Vi x34.2)] _ _ _ (by kernel_rfl) ?_
   refine x_ek ?_
   refine c_norm [(1, .slice a_p1 (p1).length c_p1), (2, Vp b3 0), (9, Vi i_s9_l21), (10, Vi x34.1), (11, Vi x34.2)] ⟨rfl, rfl, rfl, rfl, rfl, trivial⟩ (fun J => ?_)
   refine c_seq ?_
   refine c_sp ?_
   refine x_pure 2 [(93, Vi x34.2), (94, .bool (x34.2 != 0))] _ _ _ (by kernel_rfl) ?_
   refine x_ek ?_
   refine c_cond (x34.2 != 0) rfl (fun hb => ?_) (fun hb => ?_)
   · replace h := ite_t hb h
     refine c_sp ?_
     refine x_pure 3 [(95, Vi x34.2), (4, Vi 0), (5, Vi x34.2)] _ _ _ (by kernel_rfl) ?_
     refine x_ek ?_
     refine c_ret ?_
     refine k_then_ret ?_
     refine k_block_ret ?_
     refine k_then_ret ?_
     have hx := some_inj h
     subst hx
     have hy := some_inj hn21
     subst hy
     replace h := h21
     refine k_then_ret ?_
     refine k_block_ret ?_
     refine k_then_ret ?_
     refine r_ret (r_vals [Vi 0, Vi x34.2] ⟨rfl, rfl, trivial⟩ ?_)
     have hx := some_inj h
     subst hx
     have hmr : MS w35 [M] := hms.pick [some 1] _ rfl
     have hsu : ∀ x ∈ fl [M], x ∈ fl [[b3], M] := pick_sub [some 1] _ rfl
     exact ⟨rfl, hev⟩
   replace h := ite_f hb h
   refine c_skip ?_
   refine k_then ?_
   refine c_plain ?_
   refine x_pure 2 [(96, Vi x34.1), (8, Vi x34.1)] _ _ _ (by kernel_rfl) ?_
   refine x_end rfl ?_
   refine k_block ?_
   refine k_then ?_
   refine c_plain ?_
   refine x_pure 3 [(60, Vi i_s9_l21), (61, Vi (IntKind.i64.wrap (i_s9_l21 + 1))), (9, Vi (IntKind.i64.wrap (i_s9_l21 + 1)))] _ _ _ (by kernel_rfl) ?_
   refine x_end rfl ?_
   have hx := some_inj h
   subst hx
   exact k_then ⟨(m21, x34.1, IntKind.i64.wrap (i_s9_l21 + 1)), ⟨rfl, rfl, rfl, rfl, trivial⟩, ⟨hn21, hev, hms, hfr, hs_p1, hs_p0_0, hb3⟩, Nat.lt_succ_self _⟩
 replace h := ite_f hb h
 refine c_exit ?_
 refine k_then_exit ?_
 have hx := some_inj h
 subst hx
 have hy := some_inj hn21
 subst hy
 replace h := h21
 refine k_then_exit ?_
 refine k_block_in ?_
 refine k_then ?_
 refine c_norm [(8, Vi n_s8_l21)] ⟨rfl, trivial⟩ (fun J => ?_)
 refine c_sp ?_
 refine x_pure 3 [(97, Vi n_s8_l21), (4, Vi n_s8_l21), (5, Vi 0)] _ _ _ (by kernel_rfl) ?_
 refine x_ek ?_
 refine c_ret ?_
 refine r_ret (r_vals [Vi n_s8_l21, Vi 0] ⟨rfl, rfl, trivial⟩ ?_)
 have hx := some_inj h
 subst hx
 have hmr : MS wl21 [M] := hms.pick [some 1] _ rfl
 have hsu : ∀ x ∈ fl [M], x ∈ fl [[b3], M] := pick_sub [some 1] _ rfl
 exact ⟨rfl, hev⟩
end Go.Proofs.Ytcignnfdpgeogaa
