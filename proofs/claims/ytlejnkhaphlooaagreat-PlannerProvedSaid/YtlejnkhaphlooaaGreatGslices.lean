
/- Walks, printed by program: each function returns what the partial function of the same name returns. Conditions: those of each theorem. -/
import Derived.Test.YtlejnkhaphlooaaGreatGT
set_option linter.unusedVariables false
set_option linter.unusedSimpArgs false
set_option maxRecDepth 4000
namespace Go.Proofs.YtlejnkhaphlooaaGreat
open Go Go.V Go.Proofs
def slices_Clone_humpyard_api_Item_humpyard_api_Item_ (p0 : List (Int × Int × Int × Int)) : Option (List (Int × Int × Int × Int)) :=
(if ([] : List (Int × Int × Int × Int)).length + p0.length ≤ 4294967296 then
some (([] : List (Int × Int × Int × Int)) ++ p0)
else none)
theorem slices_Clone_humpyard_api_Item_humpyard_api_Item__w (a_p0 : Option Addr) (c_p0 : Nat) (p0 : List (Int × Int × Int × Int)) (r : (List (Int × Int × Int × Int))) (w : World) (M : List Nat) (hms : MS w [M]) (hs_p0 : SlR (eIt4) w (fl [M]) a_p0 c_p0 p0) (h : slices_Clone_humpyard_api_Item_humpyard_api_Item_ p0 = some r) : CallVC Tryz.prog 87 [Vl a_p0 p0 c_p0] w fun v w' => ∃ (a0' : Option Addr), ∃ (c0' : Nat), v = Vl a0' r c0' ∧ Ev [] w w' ∧ MS w' [blk a0', M] ∧ FR w.heap.size [blk a0'] ∧ OwnS (eIt4) 76 w' (fl [blk a0', M]) a0' c0' r := by
 refine calls_vc hmx Tryz.func87 (by kernel_rfl) rfl (rs := [.tmp 2]) rfl (by kernel_rfl) (args := [Vl a_p0 p0 c_p0]) rfl ?_
 have hev : Ev [] w w := Ev.refl _ _
 have hfr : FR w.heap.size [] := FR.nil _
 refine c_sp (x_u 1 [(2, .slice none 0 0)] (x_ek (c_seq (c_sp (x_u 1 [(3, Vl a_p0 p0 c_p0)] ?_)))))
 refine x_binop (.bool a_p0.isNone) (Vl a_p0 p0 c_p0) (.slice none 0 0) rfl rfl rfl rfl (vb_slnil tuns36 _ _ _) (x_ek (c_cond a_p0.isNone rfl (fun hb => ?_) (fun hb => ?_)))
 · have hnd := SlR.nil_of hs_p0 hb
   replace h : (if ([] : List (Int × Int × Int × Int)).length + p0.length ≤ 4294967296 then
some (([] : List (Int × Int × Int × Int)) ++ p0)
else none) = some r := h
   replace h : some ([]) = some r := by rw [hnd] at h; simpa using h
   refine c_sp (x_u 1 [(2, .slice none 0 0)] (x_ek (c_ret (k_then_ret (r_ret (r_vals [.slice none 0 0] ⟨rfl, trivial⟩ ?_))))))
   obtain rfl := some_inj h
   have hmr := hms.pick [none, some 0] [blk none, M] rfl
   have hfe := hfr.pick [none] [blk none] rfl
   exact ⟨none, 0, rfl, hev, hmr, hfe, OwnS.nil _ _ _ _⟩
 refine c_skip (k_then (c_sp (x_buildSlice (vs := []) #[] 76 rfl rfl rfl (by kernel_rfl) (fun b2 w2 hq2 hb2 he2 hz2 => ?_))))
 refine inl1 ?_
 obtain ⟨a2, ea2⟩ : ∃ a, a = some (⟨b2, 0, none⟩ : Addr) := ⟨_, rfl⟩
 have hw2 : ∀ M, OwnS (eIt4) 76 w2 M a2 0 ([] : List (Int × Int × Int × Int)) := fun M => ea2 ▸ own_of_box hb2 (by decide) rfl rfl (cells_at (cs := []) CellsOf.nil)
 have hn2 : ∀ b ∈ blk a2, w.heap.size ≤ b ∧ b < w2.heap.size := by subst ea2; intro b hb; simp only [blk, List.mem_singleton] at hb; subst hb; exact ⟨Nat.le_of_eq hq2.symm, lt_of_heap hb2⟩
 clear hb2
 have hst := Stp.push (ls := [M]) (l := blk a2) he2 (fun _ h => by cases h) (fun b hb => (hn2 b hb).1)
 replace hs_p0 := hs_p0.step hst
 replace hms := hms.push he2 hn2
 replace hfr := hfr.push (fun b hb => Nat.le_trans hev.size (hn2 b hb).1)
 replace hev := hev.ext he2
 have ho2 := hw2 (fl [blk a2, M])
 clear hw2
 rw [← ea2]
 refine x_u 1 [(6, Vl a_p0 p0 c_p0)] ?_
 have hg := guard_l h
 replace h := guard_r h
 obtain ⟨a4, c4, w4, hr4, he4, hn4, hm4, hw4⟩ := own_appendN tel36 36 ho2 (mem_flat 0 rfl) hs_p0 hg
 refine x_builtin (vs := [.slice a2 (([] : List (Int × Int × Int × Int))).length 0, Vl a_p0 p0 c_p0]) _ w4 rfl rfl rfl rfl (run_value _ _ _ _ hr4) (inl1 ?_)
 have hst : Stp (fl [blk a2, M]) w2 (fl [blk a4, M]) w4 := Stp.upd 0 he4 rfl (fun b hb => (hn4 b hb).1)
 replace hms : MS w4 [blk a4, M] := hms.upd 0 he4 rfl hn4
 have hfr2 : FR w.heap.size [blk a4] := hfr.upd 0 rfl hev.size (fun b hb => (hn4 b hb).1)
 replace hev := hev.then he4 (fun b hb => .inr (hfr.at 0 rfl b hb))
 replace hfr := hfr2
 clear hfr2
 replace ho2 := hw4 (fl [blk a4, M]) hst.new
 clear hw4
 refine x_u 1 [(2, .slice a4 ((([] : List (Int × Int × Int × Int)) ++ p0)).length c4)] (x_ek (c_ret (r_ret (r_vals [.slice a4 ((([] : List (Int × Int × Int × Int)) ++ p0)).length c4] ⟨rfl, trivial⟩ ?_))))
 obtain rfl := some_inj h
 have hmr := hms.pick [some 0, some 1] [blk a4, M] rfl
 have hsu := pick_sub (ls := [blk a4, M]) [some 0, some 1] [blk a4, M] rfl
 have hfe := hfr.pick [some 0] [blk a4] rfl
 exact ⟨a4, c4, rfl, hev, hmr, hfe, ho2.sub hsu⟩
def slices_Max_int_int__L5 (p0 : List Int) (s : Int × Int) : Option (Step (Int × Int) Int) :=
match s with
| (v_m_s3_l5, i_s4_l5) =>
(if (decide (i_s4_l5 < ((p0).length : Int))) = true then
((idx p0 i_s4_l5).bind fun x7 =>
some (.next (if x7 > v_m_s3_l5 then x7 else v_m_s3_l5, IntKind.i64.wrap (i_s4_l5 + 1))))
else
some (.done v_m_s3_l5))
def slices_Max_int_int_ (p0 : List Int) : Option Int :=
(if (decide (((p0).length : Int) < 1)) = true then
none
else
((idx p0 0).bind fun x3 =>
((loop (slices_Max_int_int__L5 p0) (x3, 1)).bind fun d => match d with
| v_m_s3_x5 => some v_m_s3_x5)))
theorem slices_Max_int_int__w (a_p0 : Option Addr) (c_p0 : Nat) (p0 : List Int) (r : Int) (w : World) (M : List Nat) (hms : MS w [M]) (hs_p0 : SlR (eInt .i64) w (fl [M]) a_p0 c_p0 p0) (h : slices_Max_int_int_ p0 = some r) : CallVC Tryz.prog 83 [Vl a_p0 p0 c_p0] w fun v w' => v = Vi r ∧ Ev [] w w' := by
 refine calls_vc hmx Tryz.func83 (by kernel_rfl) rfl (rs := [.tmp 2]) rfl (by kernel_rfl) (args := [Vl a_p0 p0 c_p0]) rfl ?_
 have hev : Ev [] w w := Ev.refl _ _
 have hfr : FR w.heap.size [] := FR.nil _
 refine c_sp (x_u 1 [(2, Vi 0)] (x_ek (c_seq (c_sp (x_u 1 [(5, Vl a_p0 p0 c_p0)] ?_)))))
 refine x_len (vs := [Vl a_p0 p0 c_p0]) (Vi ((p0).length : Int)) rfl rfl rfl (reads_len tsl22 _ _ _ _ _) (x_u 1 [(7, .bool (decide (((p0).length : Int) < 1)))] (x_ek (c_if (decide (((p0).length : Int) < 1)) rfl h (fun h => ?_) (fun h => ?_))))
 · refine c_plain ?_
   cases h
 refine c_skip (k_then (c_sp (x_u 1 [(9, Vl a_p0 p0 c_p0)] ?_)))
 obtain ⟨x3, hx3, h⟩ := bind_some h
 obtain ⟨ad3, cs3, hr3, hc3, hR⟩ := reads_index (Mo := []) tsl22 hs_p0 hx3
 obtain rfl := hR
 refine x_indexAddr (xv := Vl a_p0 p0 c_p0) (yv := Vi 0) (.pointer (some ad3)) rfl rfl rfl rfl hr3 (x_load (xv := .pointer (some ad3)) (Vi x3) rfl rfl rfl (reads_cell0 tcell3 hc3 (fun _ h => by cases h)) ?_)
 refine x_u 1 [(3, Vi x3)] (x_ek (c_seq (c_sp (x_u 1 [(4, Vi 1)] (x_ek ?_)))))
 refine c_block ?_
 obtain ⟨d5, hd5, h5⟩ := bind_some h
 obtain ⟨m5, hd5⟩ := loop_some hd5
 refine c_loop (loop_rule hmx (σ := Nat × Int × Int) (fun s => match s with | (_, v_m_s3_l5, i_s4_l5) => [(0, Vl a_p0 p0 c_p0), (3, Vi v_m_s3_l5), (4, Vi i_s4_l5)]) (fun s w' => match s with | (m, v_m_s3_l5, i_s4_l5) => loopN (slices_Max_int_int__L5 p0) m (v_m_s3_l5, i_s4_l5) = some d5 ∧ Ev [] w w' ∧ MS w' [M] ∧ FR w.heap.size [] ∧ SlR (eInt .i64) w' (fl [M]) a_p0 c_p0 p0) (fun s => s.1) (m5, x3, 1) ⟨rfl, rfl, rfl, trivial⟩ ⟨hd5, hev, hms, hfr, hs_p0⟩ ?_)
 rintro ⟨m5, v_m_s3_l5, i_s4_l5⟩ J wl5 ⟨hn5, hev, hms, hfr, hs_p0⟩
 rcases m5 with _ | m5
 · exact (loopN_zero hn5).elim
 obtain ⟨t5, h, hn5⟩ := bind_some hn5
 refine c_seq (c_sp (x_u 2 [(12, Vi i_s4_l5), (13, Vl a_p0 p0 c_p0)] (x_len (vs := [Vl a_p0 p0 c_p0]) (Vi ((p0).length : Int)) rfl rfl rfl (reads_len tsl22 _ _ _ _ _) (x_u 1 [(15, .bool (decide (i_s4_l5 < ((p0).length : Int))))] (x_ek ?_)))))
 refine c_nm [(0, Vl a_p0 p0 c_p0), (3, Vi v_m_s3_l5), (4, Vi i_s4_l5), (15, .bool (decide (i_s4_l5 < ((p0).length : Int))))] (fun J => ?_)
 refine c_if (decide (i_s4_l5 < ((p0).length : Int))) rfl h (fun h => ?_) (fun h => ?_)
 · refine c_skip (k_then (c_seq (c_block (c_plain (x_u 3 [(18, Vi v_m_s3_l5), (19, Vl a_p0 p0 c_p0), (20, Vi i_s4_l5)] ?_)))))
   obtain ⟨x7, hx7, h⟩ := bind_some h
   obtain ⟨ad7, cs7, hr7, hc7, hR⟩ := reads_index (Mo := []) tsl22 hs_p0 hx7
   obtain rfl := hR
   refine x_indexAddr (xv := Vl a_p0 p0 c_p0) (yv := Vi i_s4_l5) (.pointer (some ad7)) rfl rfl rfl rfl hr7 (x_load (xv := .pointer (some ad7)) (Vi x7) rfl rfl rfl (reads_cell0 tcell3 hc7 (fun _ h => by cases h)) ?_)
   refine x_max (vs := [Vi v_m_s3_l5, Vi x7]) (Vi (if x7 > v_m_s3_l5 then x7 else v_m_s3_l5)) rfl rfl rfl (fun _ _ => rfl) (x_u 1 [(3, Vi (if x7 > v_m_s3_l5 then x7 else v_m_s3_l5))] (x_end rfl (k_block (k_then (c_plain ?_)))))
   refine x_u 3 [(16, Vi i_s4_l5), (17, Vi (IntKind.i64.wrap (i_s4_l5 + 1))), (4, Vi (IntKind.i64.wrap (i_s4_l5 + 1)))] (x_end rfl ?_)
   obtain rfl := some_inj h
   exact k_then ⟨(m5, if x7 > v_m_s3_l5 then x7 else v_m_s3_l5, IntKind.i64.wrap (i_s4_l5 + 1)), ⟨rfl, rfl, rfl, trivial⟩, ⟨hn5, hev, hms, hfr, hs_p0⟩, Nat.lt_succ_self _⟩
 refine c_exit (k_then_exit ?_)
 obtain rfl := some_inj h
 have hy := some_inj hn5
 subst hy
 replace h := h5
 refine k_then_exit (k_block_in (k_then (c_nm [(3, Vi v_m_s3_l5)] (fun J => ?_))))
 refine c_sp (x_u 2 [(24, Vi v_m_s3_l5), (2, Vi v_m_s3_l5)] (x_ek (c_ret (r_ret (r_vals [Vi v_m_s3_l5] ⟨rfl, trivial⟩ ?_)))))
 obtain rfl := some_inj h
 exact ⟨rfl, hev⟩
def slices_Index_int_int__L2 (p0 : List Int) (p1 : Int) (s : Int) : Option (Step Int (Int ⊕ Unit)) :=
match s with
| t8__s8_l2 =>
(if (decide (t8__s8_l2 < ((p0).length : Int))) = true then
((idx p0 t8__s8_l2).bind fun x4 =>
(if (p1 == x4) = true then
some (.done (.inl t8__s8_l2))
else
some (.next (IntKind.i64.wrap (t8__s8_l2 + 1)))))
else
some (.done (.inr ())))
def slices_Index_int_int_ (p0 : List Int) (p1 : Int) : Option Int :=
((loop (slices_Index_int_int__L2 p0 p1) 0).bind fun d => match d with
| (.inl t4__s4_x200) => some t4__s4_x200
| (.inr _) => some (-1))
theorem slices_Index_int_int__w (a_p0 : Option Addr) (c_p0 : Nat) (p0 : List Int) (p1 : Int) (r : Int) (w : World) (M : List Nat) (hms : MS w [M]) (hs_p0 : SlR (eInt .i64) w (fl [M]) a_p0 c_p0 p0) (h : slices_Index_int_int_ p0 p1 = some r) : CallVC Tryz.prog 82 [Vl a_p0 p0 c_p0, Vi p1] w fun v w' => v = Vi r ∧ Ev [] w w' := by
 refine calls_vc hmx Tryz.func82 (by kernel_rfl) rfl (rs := [.tmp 4]) rfl (by kernel_rfl) (args := [Vl a_p0 p0 c_p0, Vi p1]) rfl ?_
 have hev : Ev [] w w := Ev.refl _ _
 have hfr : FR w.heap.size [] := FR.nil _
 refine c_sp (x_u 1 [(4, Vi 0)] (x_ek (c_seq (c_sp (x_u 1 [(6, Vl a_p0 p0 c_p0)] ?_)))))
 refine x_len (vs := [Vl a_p0 p0 c_p0]) (Vi ((p0).length : Int)) rfl rfl rfl (reads_len tsl22 _ _ _ _ _) (x_u 1 [(8, Vi 0)] (x_ek (c_block ?_)))
 obtain ⟨d2, hd2, h2⟩ := bind_some h
 obtain ⟨m2, hd2⟩ := loop_some hd2
 refine c_loop (loop_rule hmx (σ := Nat × Int) (fun s => match s with | (_, t8__s8_l2) => [(0, Vl a_p0 p0 c_p0), (1, Vi p1), (7, Vi ((p0).length : Int)), (8, Vi t8__s8_l2)]) (fun s w' => match s with | (m, t8__s8_l2) => loopN (slices_Index_int_int__L2 p0 p1) m t8__s8_l2 = some d2 ∧ Ev [] w w' ∧ MS w' [M] ∧ FR w.heap.size [] ∧ SlR (eInt .i64) w' (fl [M]) a_p0 c_p0 p0) (fun s => s.1) (m2, 0) ⟨rfl, rfl, rfl, rfl, trivial⟩ ⟨hd2, hev, hms, hfr, hs_p0⟩ ?_)
 rintro ⟨m2, t8__s8_l2⟩ J wl2 ⟨hn2, hev, hms, hfr, hs_p0⟩
 rcases m2 with _ | m2
 · exact (loopN_zero hn2).elim
 obtain ⟨t2, h, hn2⟩ := bind_some hn2
 refine c_sp (x_u 1 [(9, .bool (decide (t8__s8_l2 < ((p0).length : Int))))] (x_ek (c_nm [(0, Vl a_p0 p0 c_p0), (1, Vi p1), (7, Vi ((p0).length : Int)), (8, Vi t8__s8_l2), (9, .bool (decide (t8__s8_l2 < ((p0).length : Int))))] (fun J => ?_))))
 refine c_seq (c_if (decide (t8__s8_l2 < ((p0).length : Int))) rfl h (fun h => ?_) (fun h => ?_))
 · refine c_skip (k_then (c_seq (c_block (c_sp (x_u 2 [(10, Vi t8__s8_l2), (5, Vi t8__s8_l2)] ?_)))))
   refine x_ek (c_sp (x_u 3 [(11, Vi p1), (12, Vl a_p0 p0 c_p0), (13, Vi t8__s8_l2)] ?_))
   obtain ⟨x4, hx4, h⟩ := bind_some h
   obtain ⟨ad4, cs4, hr4, hc4, hR⟩ := reads_index (Mo := []) tsl22 hs_p0 hx4
   obtain rfl := hR
   refine x_indexAddr (xv := Vl a_p0 p0 c_p0) (yv := Vi t8__s8_l2) (.pointer (some ad4)) rfl rfl rfl rfl hr4 (x_load (xv := .pointer (some ad4)) (Vi x4) rfl rfl rfl (reads_cell0 tcell3 hc4 (fun _ h => by cases h)) ?_)
   refine x_u 1 [(16, .bool (p1 == x4))] (x_ek (c_if (p1 == x4) rfl h (fun h => ?_) (fun h => ?_)))
   · refine c_sp (x_u 2 [(17, Vi t8__s8_l2), (4, Vi t8__s8_l2)] (x_ek (c_ret (k_block_ret (k_then_ret ?_)))))
     obtain rfl := some_inj h
     have hy := some_inj hn2
     subst hy
     replace h := h2
     refine k_then_ret (k_block_ret (k_then_ret (r_ret (r_vals [Vi t8__s8_l2] ⟨rfl, trivial⟩ ?_))))
     obtain rfl := some_inj h
     exact ⟨rfl, hev⟩
   refine c_skip (k_block (k_then (c_plain (x_u 2 [(18, Vi (IntKind.i64.wrap (t8__s8_l2 + 1))), (8, Vi (IntKind.i64.wrap (t8__s8_l2 + 1)))] (x_end rfl ?_)))))
   obtain rfl := some_inj h
   exact k_then ⟨(m2, IntKind.i64.wrap (t8__s8_l2 + 1)), ⟨rfl, rfl, rfl, rfl, trivial⟩, ⟨hn2, hev, hms, hfr, hs_p0⟩, Nat.lt_succ_self _⟩
 refine c_exit (k_then_exit ?_)
 obtain rfl := some_inj h
 have hy := some_inj hn2
 subst hy
 replace h := h2
 refine k_then_exit (k_block_in (k_then (c_norm [] trivial (fun J => ?_))))
 refine c_sp (x_u 1 [(4, Vi (-1))] (x_ek (c_ret (r_ret (r_vals [Vi (-1)] ⟨rfl, trivial⟩ ?_)))))
 obtain rfl := some_inj h
 exact ⟨rfl, hev⟩
def slices_Clone_int_int_ (p0 : List Int) : Option (List Int) :=
(if ([] : List Int).length + p0.length ≤ 4294967296 then
some (([] : List Int) ++ p0)
else none)
theorem slices_Clone_int_int__w (a_p0 : Option Addr) (c_p0 : Nat) (p0 : List Int) (r : (List Int)) (w : World) (M : List Nat) (hms : MS w [M]) (hs_p0 : SlR (eInt .i64) w (fl [M]) a_p0 c_p0 p0) (h : slices_Clone_int_int_ p0 = some r) : CallVC Tryz.prog 118 [Vl a_p0 p0 c_p0] w fun v w' => ∃ (a0' : Option Addr), ∃ (c0' : Nat), v = Vl a0' r c0' ∧ Ev [] w w' ∧ MS w' [blk a0', M] ∧ FR w.heap.size [blk a0'] ∧ OwnS (eInt .i64) 3 w' (fl [blk a0', M]) a0' c0' r := by
 refine calls_vc hmx Tryz.func118 (by kernel_rfl) rfl (rs := [.tmp 2]) rfl (by kernel_rfl) (args := [Vl a_p0 p0 c_p0]) rfl ?_
 have hev : Ev [] w w := Ev.refl _ _
 have hfr : FR w.heap.size [] := FR.nil _
 refine c_sp (x_u 1 [(2, .slice none 0 0)] (x_ek (c_seq (c_sp (x_u 1 [(3, Vl a_p0 p0 c_p0)] ?_)))))
 refine x_binop (.bool a_p0.isNone) (Vl a_p0 p0 c_p0) (.slice none 0 0) rfl rfl rfl rfl (vb_slnil tuns22 _ _ _) (x_ek (c_cond a_p0.isNone rfl (fun hb => ?_) (fun hb => ?_)))
 · have hnd := SlR.nil_of hs_p0 hb
   replace h : (if ([] : List Int).length + p0.length ≤ 4294967296 then
some (([] : List Int) ++ p0)
else none) = some r := h
   replace h : some ([]) = some r := by rw [hnd] at h; simpa using h
   refine c_sp (x_u 1 [(2, .slice none 0 0)] (x_ek (c_ret (k_then_ret (r_ret (r_vals [.slice none 0 0] ⟨rfl, trivial⟩ ?_))))))
   obtain rfl := some_inj h
   have hmr := hms.pick [none, some 0] [blk none, M] rfl
   have hfe := hfr.pick [none] [blk none] rfl
   exact ⟨none, 0, rfl, hev, hmr, hfe, OwnS.nil _ _ _ _⟩
 refine c_skip (k_then (c_sp (x_buildSlice (vs := []) #[] 3 rfl rfl rfl (by kernel_rfl) (fun b2 w2 hq2 hb2 he2 hz2 => ?_))))
 refine inl1 ?_
 obtain ⟨a2, ea2⟩ : ∃ a, a = some (⟨b2, 0, none⟩ : Addr) := ⟨_, rfl⟩
 have hw2 : ∀ M, OwnS (eInt .i64) 3 w2 M a2 0 ([] : List Int) := fun M => ea2 ▸ own_of_box hb2 (by decide) rfl rfl (cells_at (cs := []) CellsOf.nil)
 have hn2 : ∀ b ∈ blk a2, w.heap.size ≤ b ∧ b < w2.heap.size := by subst ea2; intro b hb; simp only [blk, List.mem_singleton] at hb; subst hb; exact ⟨Nat.le_of_eq hq2.symm, lt_of_heap hb2⟩
 clear hb2
 have hst := Stp.push (ls := [M]) (l := blk a2) he2 (fun _ h => by cases h) (fun b hb => (hn2 b hb).1)
 replace hs_p0 := hs_p0.step hst
 replace hms := hms.push he2 hn2
 replace hfr := hfr.push (fun b hb => Nat.le_trans hev.size (hn2 b hb).1)
 replace hev := hev.ext he2
 have ho2 := hw2 (fl [blk a2, M])
 clear hw2
 rw [← ea2]
 refine x_u 1 [(6, Vl a_p0 p0 c_p0)] ?_
 have hg := guard_l h
 replace h := guard_r h
 obtain ⟨a4, c4, w4, hr4, he4, hn4, hm4, hw4⟩ := own_appendN tel22 22 ho2 (mem_flat 0 rfl) hs_p0 hg
 refine x_builtin (vs := [.slice a2 (([] : List Int)).length 0, Vl a_p0 p0 c_p0]) _ w4 rfl rfl rfl rfl (run_value _ _ _ _ hr4) (inl1 ?_)
 have hst : Stp (fl [blk a2, M]) w2 (fl [blk a4, M]) w4 := Stp.upd 0 he4 rfl (fun b hb => (hn4 b hb).1)
 replace hms : MS w4 [blk a4, M] := hms.upd 0 he4 rfl hn4
 have hfr2 : FR w.heap.size [blk a4] := hfr.upd 0 rfl hev.size (fun b hb => (hn4 b hb).1)
 replace hev := hev.then he4 (fun b hb => .inr (hfr.at 0 rfl b hb))
 replace hfr := hfr2
 clear hfr2
 replace ho2 := hw4 (fl [blk a4, M]) hst.new
 clear hw4
 refine x_u 1 [(2, .slice a4 ((([] : List Int) ++ p0)).length c4)] (x_ek (c_ret (r_ret (r_vals [.slice a4 ((([] : List Int) ++ p0)).length c4] ⟨rfl, trivial⟩ ?_))))
 obtain rfl := some_inj h
 have hmr := hms.pick [some 0, some 1] [blk a4, M] rfl
 have hsu := pick_sub (ls := [blk a4, M]) [some 0, some 1] [blk a4, M] rfl
 have hfe := hfr.pick [some 0] [blk a4] rfl
 exact ⟨a4, c4, rfl, hev, hmr, hfe, ho2.sub hsu⟩
def slices_Index_string_string__L2 (p0 : List (List UInt8)) (p1 : List UInt8) (s : Int) : Option (Step Int (Int ⊕ Unit)) :=
match s with
| t8__s8_l2 =>
(if (decide (t8__s8_l2 < ((p0).length : Int))) = true then
((idx p0 t8__s8_l2).bind fun x4 =>
(if (p1 == x4) = true then
some (.done (.inl t8__s8_l2))
else
some (.next (IntKind.i64.wrap (t8__s8_l2 + 1)))))
else
some (.done (.inr ())))
def slices_Index_string_string_ (p0 : List (List UInt8)) (p1 : List UInt8) : Option Int :=
((loop (slices_Index_string_string__L2 p0 p1) 0).bind fun d => match d with
| (.inl t4__s4_x200) => some t4__s4_x200
| (.inr _) => some (-1))
theorem slices_Index_string_string__w (a_p0 : Option Addr) (c_p0 : Nat) (p0 : List (List UInt8)) (p1 : List UInt8) (r : Int) (w : World) (M : List Nat) (hms : MS w [M]) (hs_p0 : SlR eStr w (fl [M]) a_p0 c_p0 p0) (h : slices_Index_string_string_ p0 p1 = some r) : CallVC Tryz.prog 75 [Vl a_p0 p0 c_p0, Vs p1] w fun v w' => v = Vi r ∧ Ev [] w w' := by
 refine calls_vc hmx Tryz.func75 (by kernel_rfl) rfl (rs := [.tmp 4]) rfl (by kernel_rfl) (args := [Vl a_p0 p0 c_p0, Vs p1]) rfl ?_
 have hev : Ev [] w w := Ev.refl _ _
 have hfr : FR w.heap.size [] := FR.nil _
 refine c_sp (x_u 1 [(4, Vi 0)] (x_ek (c_seq (c_sp (x_u 1 [(6, Vl a_p0 p0 c_p0)] ?_)))))
 refine x_len (vs := [Vl a_p0 p0 c_p0]) (Vi ((p0).length : Int)) rfl rfl rfl (reads_len tsl29 _ _ _ _ _) (x_u 1 [(8, Vi 0)] (x_ek (c_block ?_)))
 obtain ⟨d2, hd2, h2⟩ := bind_some h
 obtain ⟨m2, hd2⟩ := loop_some hd2
 refine c_loop (loop_rule hmx (σ := Nat × Int) (fun s => match s with | (_, t8__s8_l2) => [(0, Vl a_p0 p0 c_p0), (1, Vs p1), (7, Vi ((p0).length : Int)), (8, Vi t8__s8_l2)]) (fun s w' => match s with | (m, t8__s8_l2) => loopN (slices_Index_string_string__L2 p0 p1) m t8__s8_l2 = some d2 ∧ Ev [] w w' ∧ MS w' [M] ∧ FR w.heap.size [] ∧ SlR eStr w' (fl [M]) a_p0 c_p0 p0) (fun s => s.1) (m2, 0) ⟨rfl, rfl, rfl, rfl, trivial⟩ ⟨hd2, hev, hms, hfr, hs_p0⟩ ?_)
 rintro ⟨m2, t8__s8_l2⟩ J wl2 ⟨hn2, hev, hms, hfr, hs_p0⟩
 rcases m2 with _ | m2
 · exact (loopN_zero hn2).elim
 obtain ⟨t2, h, hn2⟩ := bind_some hn2
 refine c_sp (x_u 1 [(9, .bool (decide (t8__s8_l2 < ((p0).length : Int))))] (x_ek (c_nm [(0, Vl a_p0 p0 c_p0), (1, Vs p1), (7, Vi ((p0).length : Int)), (8, Vi t8__s8_l2), (9, .bool (decide (t8__s8_l2 < ((p0).length : Int))))] (fun J => ?_))))
 refine c_seq (c_if (decide (t8__s8_l2 < ((p0).length : Int))) rfl h (fun h => ?_) (fun h => ?_))
 · refine c_skip (k_then (c_seq (c_block (c_sp (x_u 2 [(10, Vi t8__s8_l2), (5, Vi t8__s8_l2)] ?_)))))
   refine x_ek (c_sp (x_u 3 [(11, Vs p1), (12, Vl a_p0 p0 c_p0), (13, Vi t8__s8_l2)] ?_))
   obtain ⟨x4, hx4, h⟩ := bind_some h
   obtain ⟨ad4, cs4, hr4, hc4, hR⟩ := reads_index (Mo := []) tsl29 hs_p0 hx4
   obtain rfl := hR
   refine x_indexAddr (xv := Vl a_p0 p0 c_p0) (yv := Vi t8__s8_l2) (.pointer (some ad4)) rfl rfl rfl rfl hr4 (x_load (xv := .pointer (some ad4)) (Vs x4) rfl rfl rfl (reads_cell0 tcell9 hc4 (fun _ h => by cases h)) ?_)
   refine x_binop (.bool (p1 == x4)) (Vs p1) (Vs x4) rfl rfl rfl rfl (bin_seq) (x_ek (c_if (p1 == x4) rfl h (fun h => ?_) (fun h => ?_)))
   · refine c_sp (x_u 2 [(17, Vi t8__s8_l2), (4, Vi t8__s8_l2)] (x_ek (c_ret (k_block_ret (k_then_ret ?_)))))
     obtain rfl := some_inj h
     have hy := some_inj hn2
     subst hy
     replace h := h2
     refine k_then_ret (k_block_ret (k_then_ret (r_ret (r_vals [Vi t8__s8_l2] ⟨rfl, trivial⟩ ?_))))
     obtain rfl := some_inj h
     exact ⟨rfl, hev⟩
   refine c_skip (k_block (k_then (c_plain (x_u 2 [(18, Vi (IntKind.i64.wrap (t8__s8_l2 + 1))), (8, Vi (IntKind.i64.wrap (t8__s8_l2 + 1)))] (x_end rfl ?_)))))
   obtain rfl := some_inj h
   exact k_then ⟨(m2, IntKind.i64.wrap (t8__s8_l2 + 1)), ⟨rfl, rfl, rfl, rfl, trivial⟩, ⟨hn2, hev, hms, hfr, hs_p0⟩, Nat.lt_succ_self _⟩
 refine c_exit (k_then_exit ?_)
 obtain rfl := some_inj h
 have hy := some_inj hn2
 subst hy
 replace h := h2
 refine k_then_exit (k_block_in (k_then (c_norm [] trivial (fun J => ?_))))
 refine c_sp (x_u 1 [(4, Vi (-1))] (x_ek (c_ret (r_ret (r_vals [Vi (-1)] ⟨rfl, trivial⟩ ?_)))))
 obtain rfl := some_inj h
 exact ⟨rfl, hev⟩
end Go.Proofs.YtlejnkhaphlooaaGreat
