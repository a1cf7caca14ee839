
/- Walks, printed by program: each function returns what the partial function of the same name returns. Conditions: those of each theorem. -/
import Derived.Test.YtcignnfdpgeogaaGT
set_option linter.unusedVariables false
set_option linter.unusedSimpArgs false
set_option maxRecDepth 4000
namespace Go.Proofs.Ytcignnfdpgeogaa
open Go Go.V Go.Proofs
def gen_Bytes_L4 (p0 : List Int) (p1 : List Int) (s : Int) : Option (Step Int (Unit ⊕ Unit)) :=
match s with
| i_s5_l4 =>
(if (decide (i_s5_l4 < ((p0).length : Int))) = true then
((idx p0 i_s5_l4).bind fun x6 =>
((idx p1 i_s5_l4).bind fun x8 =>
(if (x6 != x8) = true then
some (.done (.inl ()))
else
some (.next (IntKind.i64.wrap (i_s5_l4 + 1))))))
else
some (.done (.inr ())))

def gen_Bytes (p0 : List Int) (p1 : List Int) : Option Bool :=
(if (((p0).length : Int) != ((p1).length : Int)) = true then
some false
else
((loop (gen_Bytes_L4 p0 p1) 0).bind fun d => match d with
| (.inl _) => some false
| (.inr _) => some true))

theorem gen_Bytes_w (a_p0 : Option Addr) (c_p0 : Nat) (p0 : List Int) (a_p1 : Option Addr) (c_p1 : Nat) (p1 : List Int) (r : Bool) (w : World) (M : List Nat) (hms : MS w [M]) (hs_p0 : SlR (eInt .u8) w (fl [M]) a_p0 c_p0 p0) (hs_p1 : SlR (eInt .u8) w (fl [M]) a_p1 c_p1 p1) (h : gen_Bytes p0 p1 = some r) : CallVC Try.prog 24 [Vl a_p0 p0 c_p0, Vl a_p1 p1 c_p1] w fun v w' => v = .bool r ∧ Ev [] w w' := by
 refine calls_vc hmx Try.func24 (by kernel_rfl) rfl (rs := [.tmp 4]) rfl (by kernel_rfl) (args := [Vl a_p0 p0 c_p0, Vl a_p1 p1 c_p1]) rfl ?_
 have hev : Ev [] w w := Ev.refl _ _
 have hfr : FR w.heap.size [] := FR.nil _
 refine c_sp ?_
 refine x_u 1 [(4, .bool false)] ?_
 refine x_ek ?_
 refine c_seq ?_
 refine c_sp ?_
 refine x_u 1 [(6, Vl a_p0 p0 c_p0)] ?_
 refine x_len (vs := [Vl a_p0 p0 c_p0]) (Vi ((p0).length : Int)) rfl rfl rfl (reads_len tsl46 _ _ _ _ _) ?_
 refine x_u 1 [(8, Vl a_p1 p1 c_p1)] ?_
 refine x_len (vs := [Vl a_p1 p1 c_p1]) (Vi ((p1).length : Int)) rfl rfl rfl (reads_len tsl46 _ _ _ _ _) ?_
 refine x_u 1 [(10, .bool (((p0).length : Int) != ((p1).length : Int)))] ?_
 refine x_ek ?_
 refine c_if (((p0).length : Int) != ((p1).length : Int)) rfl h (fun h => ?_) (fun h => ?_)
 · refine c_sp ?_
   refine x_u 1 [(4, .bool false)] ?_
   refine x_ek ?_
   refine c_ret ?_
   refine k_then_ret ?_
   refine r_ret (r_vals [.bool false] ⟨rfl, trivial⟩ ?_)
   have hx := some_inj h
   subst hx
   have hmr : MS w [M] := hms.pick [some 0] _ rfl
   have hsu : ∀ x ∈ fl [M], x ∈ fl [M] := pick_sub [some 0] _ rfl
   exact ⟨rfl, hev⟩
 refine c_skip ?_
 refine k_then ?_
 refine c_seq ?_
 refine c_sp ?_
 refine x_u 1 [(5, Vi 0)] ?_
 refine x_ek ?_
 refine c_block ?_
 obtain ⟨d4, hd4, h4⟩ := bind_some h
 obtain ⟨m4, hd4⟩ := loop_some hd4
 refine c_loop (loop_rule hmx (σ := Nat × Int) (fun s => match s with | (_, i_s5_l4) => [(0, Vl a_p0 p0 c_p0), (1, Vl a_p1 p1 c_p1), (5, Vi i_s5_l4)]) (fun s w' => match s with | (m, i_s5_l4) => loopN (gen_Bytes_L4 p0 p1) m i_s5_l4 = some d4 ∧ Ev [] w w' ∧ MS w' [M] ∧ FR w.heap.size [] ∧ SlR (eInt .u8) w' (fl [M]) a_p0 c_p0 p0 ∧ SlR (eInt .u8) w' (fl [M]) a_p1 c_p1 p1) (fun s => s.1) (m4, 0) ⟨rfl, rfl, rfl, trivial⟩ ⟨hd4, hev, hms, hfr, hs_p0, hs_p1⟩ ?_)
 rintro ⟨m4, i_s5_l4⟩ J wl4 ⟨hn4, hev, hms, hfr, hs_p0, hs_p1⟩
 rcases m4 with _ | m4
 · exact (loopN_zero hn4).elim
 obtain ⟨t4, h, hn4⟩ := bind_some hn4
 refine c_seq ?_
 refine c_sp ?_
 refine x_u 2 [(11, Vi i_s5_l4), (12, Vl a_p0 p0 c_p0)] ?_
 refine x_len (vs := [Vl a_p0 p0 c_p0]) (Vi ((p0).length : Int)) rfl rfl rfl (reads_len tsl46 _ _ _ _ _) ?_
 refine x_u 1 [(14, .bool (decide (i_s5_l4 < ((p0).length : Int))))] ?_
 refine x_ek ?_
 refine c_norm [(0, Vl a_p0 p0 c_p0), (1, Vl a_p1 p1 c_p1), (5, Vi i_s5_l4), (14, .bool (decide (i_s5_l4 < ((p0).length : Int))))] ⟨rfl, rfl, rfl, rfl, trivial⟩ (fun J => ?_)
 refine c_if (decide (i_s5_l4 < ((p0).length : Int))) rfl h (fun h => ?_) (fun h => ?_)
 · refine c_skip ?_
   refine k_then ?_
   refine c_seq ?_
   refine c_block ?_
   refine c_seq ?_
   refine c_drawn [] [(0, false), (1, false), (2, false), (3, false), (4, false), (5, false), (6, false), (7, false), (8, false)] _ (by kernel_rfl) rfl ?_
   have hst := Stp.ext (ls := [M]) (Ev.drew wl4)
   replace hs_p0 := hs_p0.step hst
   replace hs_p1 := hs_p1.step hst
   replace hms := hms.ev (Ev.drew wl4)
   replace hev := hev.ext (Ev.drew wl4)
   refine x_u 2 [(17, Vl a_p0 p0 c_p0), (18, Vi i_s5_l4)] ?_
   obtain ⟨x6, hx6, h⟩ := bind_some h
   obtain ⟨ad6, cs6, hr6, hc6, hR⟩ := reads_index (Mo := []) tsl46 hs_p0 hx6
   obtain rfl := hR
   refine x_indexAddr (xv := Vl a_p0 p0 c_p0) (yv := Vi i_s5_l4) (.pointer (some ad6)) rfl rfl rfl rfl hr6 ?_
   refine x_load (xv := .pointer (some ad6)) (.int .u8 x6) rfl rfl rfl (reads_cell0 tcell5 hc6 (fun _ h => by cases h)) ?_
   refine x_u 2 [(21, Vl a_p1 p1 c_p1), (22, Vi i_s5_l4)] ?_
   obtain ⟨x8, hx8, h⟩ := bind_some h
   obtain ⟨ad8, cs8, hr8, hc8, hR⟩ := reads_index (Mo := []) tsl46 hs_p1 hx8
   obtain rfl := hR
   refine x_indexAddr (xv := Vl a_p1 p1 c_p1) (yv := Vi i_s5_l4) (.pointer (some ad8)) rfl rfl rfl rfl hr8 ?_
   refine x_load (xv := .pointer (some ad8)) (.int .u8 x8) rfl rfl rfl (reads_cell0 tcell5 hc8 (fun _ h => by cases h)) ?_
   refine x_u 1 [(25, .bool (x6 != x8))] ?_
   refine x_ek ?_
   refine c_if (x6 != x8) rfl h (fun h => ?_) (fun h => ?_)
   · refine c_sp ?_
     refine x_u 1 [(4, .bool false)] ?_
     refine x_ek ?_
     refine c_ret ?_
     refine k_block_ret ?_
     refine k_then_ret ?_
     have hx := some_inj h
     subst hx
     have hy := some_inj hn4
     subst hy
     replace h := h4
     refine k_then_ret ?_
     refine k_block_ret ?_
     refine k_then_ret ?_
     refine r_ret (r_vals [.bool false] ⟨rfl, trivial⟩ ?_)
     have hx := some_inj h
     subst hx
     have hmr : MS (wl4).drew [M] := hms.pick [some 0] _ rfl
     have hsu : ∀ x ∈ fl [M], x ∈ fl [M] := pick_sub [some 0] _ rfl
     exact ⟨rfl, hev⟩
   refine c_skip ?_
   refine k_block ?_
   refine k_then ?_
   refine c_plain ?_
   refine x_u 3 [(15, Vi i_s5_l4), (16, Vi (IntKind.i64.wrap (i_s5_l4 + 1))), (5, Vi (IntKind.i64.wrap (i_s5_l4 + 1)))] ?_
   refine x_end rfl ?_
   have hx := some_inj h
   subst hx
   exact k_then ⟨(m4, IntKind.i64.wrap (i_s5_l4 + 1)), ⟨rfl, rfl, rfl, trivial⟩, ⟨hn4, hev, hms, hfr, hs_p0, hs_p1⟩, Nat.lt_succ_self _⟩
 refine c_exit ?_
 refine k_then_exit ?_
 have hx := some_inj h
 subst hx
 have hy := some_inj hn4
 subst hy
 replace h := h4
 refine k_then_exit ?_
 refine k_block_in ?_
 refine k_then ?_
 refine c_norm [] trivial (fun J => ?_)
 refine c_sp ?_
 refine x_u 1 [(4, .bool true)] ?_
 refine x_ek ?_
 refine c_ret ?_
 refine r_ret (r_vals [.bool true] ⟨rfl, trivial⟩ ?_)
 have hx := some_inj h
 subst hx
 have hmr : MS wl4 [M] := hms.pick [some 0] _ rfl
 have hsu : ∀ x ∈ fl [M], x ∈ fl [M] := pick_sub [some 0] _ rfl
 exact ⟨rfl, hev⟩
def gen_Ints_L4 (p0 : List Int) (p1 : List Int) (s : Int) : Option (Step Int (Unit ⊕ Unit)) :=
match s with
| i_s5_l4 =>
(if (decide (i_s5_l4 < ((p0).length : Int))) = true then
((idx p0 i_s5_l4).bind fun x6 =>
((idx p1 i_s5_l4).bind fun x8 =>
(if (x6 != x8) = true then
some (.done (.inl ()))
else
some (.next (IntKind.i64.wrap (i_s5_l4 + 1))))))
else
some (.done (.inr ())))

def gen_Ints (p0 : List Int) (p1 : List Int) : Option Bool :=
(if (((p0).length : Int) != ((p1).length : Int)) = true then
some false
else
((loop (gen_Ints_L4 p0 p1) 0).bind fun d => match d with
| (.inl _) => some false
| (.inr _) => some true))

theorem gen_Ints_w (a_p0 : Option Addr) (c_p0 : Nat) (p0 : List Int) (a_p1 : Option Addr) (c_p1 : Nat) (p1 : List Int) (r : Bool) (w : World) (M : List Nat) (hms : MS w [M]) (hs_p0 : SlR (eInt .i64) w (fl [M]) a_p0 c_p0 p0) (hs_p1 : SlR (eInt .i64) w (fl [M]) a_p1 c_p1 p1) (h : gen_Ints p0 p1 = some r) : CallVC Try.prog 36 [Vl a_p0 p0 c_p0, Vl a_p1 p1 c_p1] w fun v w' => v = .bool r ∧ Ev [] w w' := by
 refine calls_vc hmx Try.func36 (by kernel_rfl) rfl (rs := [.tmp 4]) rfl (by kernel_rfl) (args := [Vl a_p0 p0 c_p0, Vl a_p1 p1 c_p1]) rfl ?_
 have hev : Ev [] w w := Ev.refl _ _
 have hfr : FR w.heap.size [] := FR.nil _
 refine c_sp ?_
 refine x_u 1 [(4, .bool false)] ?_
 refine x_ek ?_
 refine c_seq ?_
 refine c_sp ?_
 refine x_u 1 [(6, Vl a_p0 p0 c_p0)] ?_
 refine x_len (vs := [Vl a_p0 p0 c_p0]) (Vi ((p0).length : Int)) rfl rfl rfl (reads_len tsl22 _ _ _ _ _) ?_
 refine x_u 1 [(8, Vl a_p1 p1 c_p1)] ?_
 refine x_len (vs := [Vl a_p1 p1 c_p1]) (Vi ((p1).length : Int)) rfl rfl rfl (reads_len tsl22 _ _ _ _ _) ?_
 refine x_u 1 [(10, .bool (((p0).length : Int) != ((p1).length : Int)))] ?_
 refine x_ek ?_
 refine c_if (((p0).length : Int) != ((p1).length : Int)) rfl h (fun h => ?_) (fun h => ?_)
 · refine c_sp ?_
   refine x_u 1 [(4, .bool false)] ?_
   refine x_ek ?_
   refine c_ret ?_
   refine k_then_ret ?_
   refine r_ret (r_vals [.bool false] ⟨rfl, trivial⟩ ?_)
   have hx := some_inj h
   subst hx
   have hmr : MS w [M] := hms.pick [some 0] _ rfl
   have hsu : ∀ x ∈ fl [M], x ∈ fl [M] := pick_sub [some 0] _ rfl
   exact ⟨rfl, hev⟩
 refine c_skip ?_
 refine k_then ?_
 refine c_seq ?_
 refine c_sp ?_
 refine x_u 1 [(5, Vi 0)] ?_
 refine x_ek ?_
 refine c_block ?_
 obtain ⟨d4, hd4, h4⟩ := bind_some h
 obtain ⟨m4, hd4⟩ := loop_some hd4
 refine c_loop (loop_rule hmx (σ := Nat × Int) (fun s => match s with | (_, i_s5_l4) => [(0, Vl a_p0 p0 c_p0), (1, Vl a_p1 p1 c_p1), (5, Vi i_s5_l4)]) (fun s w' => match s with | (m, i_s5_l4) => loopN (gen_Ints_L4 p0 p1) m i_s5_l4 = some d4 ∧ Ev [] w w' ∧ MS w' [M] ∧ FR w.heap.size [] ∧ SlR (eInt .i64) w' (fl [M]) a_p0 c_p0 p0 ∧ SlR (eInt .i64) w' (fl [M]) a_p1 c_p1 p1) (fun s => s.1) (m4, 0) ⟨rfl, rfl, rfl, trivial⟩ ⟨hd4, hev, hms, hfr, hs_p0, hs_p1⟩ ?_)
 rintro ⟨m4, i_s5_l4⟩ J wl4 ⟨hn4, hev, hms, hfr, hs_p0, hs_p1⟩
 rcases m4 with _ | m4
 · exact (loopN_zero hn4).elim
 obtain ⟨t4, h, hn4⟩ := bind_some hn4
 refine c_seq ?_
 refine c_sp ?_
 refine x_u 2 [(11, Vi i_s5_l4), (12, Vl a_p0 p0 c_p0)] ?_
 refine x_len (vs := [Vl a_p0 p0 c_p0]) (Vi ((p0).length : Int)) rfl rfl rfl (reads_len tsl22 _ _ _ _ _) ?_
 refine x_u 1 [(14, .bool (decide (i_s5_l4 < ((p0).length : Int))))] ?_
 refine x_ek ?_
 refine c_norm [(0, Vl a_p0 p0 c_p0), (1, Vl a_p1 p1 c_p1), (5, Vi i_s5_l4), (14, .bool (decide (i_s5_l4 < ((p0).length : Int))))] ⟨rfl, rfl, rfl, rfl, trivial⟩ (fun J => ?_)
 refine c_if (decide (i_s5_l4 < ((p0).length : Int))) rfl h (fun h => ?_) (fun h => ?_)
 · refine c_skip ?_
   refine k_then ?_
   refine c_seq ?_
   refine c_block ?_
   refine c_seq ?_
   refine c_drawn [] [(0, false), (1, false), (2, false), (3, false), (4, false), (5, false), (6, false), (7, false), (8, false)] _ (by kernel_rfl) rfl ?_
   have hst := Stp.ext (ls := [M]) (Ev.drew wl4)
   replace hs_p0 := hs_p0.step hst
   replace hs_p1 := hs_p1.step hst
   replace hms := hms.ev (Ev.drew wl4)
   replace hev := hev.ext (Ev.drew wl4)
   refine x_u 2 [(17, Vl a_p0 p0 c_p0), (18, Vi i_s5_l4)] ?_
   obtain ⟨x6, hx6, h⟩ := bind_some h
   obtain ⟨ad6, cs6, hr6, hc6, hR⟩ := reads_index (Mo := []) tsl22 hs_p0 hx6
   obtain rfl := hR
   refine x_indexAddr (xv := Vl a_p0 p0 c_p0) (yv := Vi i_s5_l4) (.pointer (some ad6)) rfl rfl rfl rfl hr6 ?_
   refine x_load (xv := .pointer (some ad6)) (Vi x6) rfl rfl rfl (reads_cell0 tcell3 hc6 (fun _ h => by cases h)) ?_
   refine x_u 2 [(21, Vl a_p1 p1 c_p1), (22, Vi i_s5_l4)] ?_
   obtain ⟨x8, hx8, h⟩ := bind_some h
   obtain ⟨ad8, cs8, hr8, hc8, hR⟩ := reads_index (Mo := []) tsl22 hs_p1 hx8
   obtain rfl := hR
   refine x_indexAddr (xv := Vl a_p1 p1 c_p1) (yv := Vi i_s5_l4) (.pointer (some ad8)) rfl rfl rfl rfl hr8 ?_
   refine x_load (xv := .pointer (some ad8)) (Vi x8) rfl rfl rfl (reads_cell0 tcell3 hc8 (fun _ h => by cases h)) ?_
   refine x_u 1 [(25, .bool (x6 != x8))] ?_
   refine x_ek ?_
   refine c_if (x6 != x8) rfl h (fun h => ?_) (fun h => ?_)
   · refine c_sp ?_
     refine x_u 1 [(4, .bool false)] ?_
     refine x_ek ?_
     refine c_ret ?_
     refine k_block_ret ?_
     refine k_then_ret ?_
     have hx := some_inj h
     subst hx
     have hy := some_inj hn4
     subst hy
     replace h := h4
     refine k_then_ret ?_
     refine k_block_ret ?_
     refine k_then_ret ?_
     refine r_ret (r_vals [.bool false] ⟨rfl, trivial⟩ ?_)
     have hx := some_inj h
     subst hx
     have hmr : MS (wl4).drew [M] := hms.pick [some 0] _ rfl
     have hsu : ∀ x ∈ fl [M], x ∈ fl [M] := pick_sub [some 0] _ rfl
     exact ⟨rfl, hev⟩
   refine c_skip ?_
   refine k_block ?_
   refine k_then ?_
   refine c_plain ?_
   refine x_u 3 [(15, Vi i_s5_l4), (16, Vi (IntKind.i64.wrap (i_s5_l4 + 1))), (5, Vi (IntKind.i64.wrap (i_s5_l4 + 1)))] ?_
   refine x_end rfl ?_
   have hx := some_inj h
   subst hx
   exact k_then ⟨(m4, IntKind.i64.wrap (i_s5_l4 + 1)), ⟨rfl, rfl, rfl, trivial⟩, ⟨hn4, hev, hms, hfr, hs_p0, hs_p1⟩, Nat.lt_succ_self _⟩
 refine c_exit ?_
 refine k_then_exit ?_
 have hx := some_inj h
 subst hx
 have hy := some_inj hn4
 subst hy
 replace h := h4
 refine k_then_exit ?_
 refine k_block_in ?_
 refine k_then ?_
 refine c_norm [] trivial (fun J => ?_)
 refine c_sp ?_
 refine x_u 1 [(4, .bool true)] ?_
 refine x_ek ?_
 refine c_ret ?_
 refine r_ret (r_vals [.bool true] ⟨rfl, trivial⟩ ?_)
 have hx := some_inj h
 subst hx
 have hmr : MS wl4 [M] := hms.pick [some 0] _ rfl
 have hsu : ∀ x ∈ fl [M], x ∈ fl [M] := pick_sub [some 0] _ rfl
 exact ⟨rfl, hev⟩
def gen_Plans (p0_0 : Int) (p0_1 : List Int) (p1_0 : Int) (p1_1 : List Int) : Option Bool :=
(if (p0_0 == p1_0) = true then
((gen_Ints p0_1 p1_1).bind fun x7 =>
some x7)
else
some false)

theorem gen_Plans_w (p0_0 : Int) (a_p0_1 : Option Addr) (c_p0_1 : Nat) (p0_1 : List Int) (p1_0 : Int) (a_p1_1 : Option Addr) (c_p1_1 : Nat) (p1_1 : List Int) (r : Bool) (w : World) (M : List Nat) (hms : MS w [M]) (hs_p0_1 : SlR (eInt .i64) w (fl [M]) a_p0_1 c_p0_1 p0_1) (hs_p1_1 : SlR (eInt .i64) w (fl [M]) a_p1_1 c_p1_1 p1_1) (h : gen_Plans p0_0 p0_1 p1_0 p1_1 = some r) : CallVC Try.prog 35 [.agg #[Vi p0_0, Vl a_p0_1 p0_1 c_p0_1], .agg #[Vi p1_0, Vl a_p1_1 p1_1 c_p1_1]] w fun v w' => v = .bool r ∧ Ev [] w w' := by
 refine calls_vc hmx Try.func35 (by kernel_rfl) rfl (rs := [.tmp 4]) rfl (by kernel_rfl) (args := [.agg #[Vi p0_0, Vl a_p0_1 p0_1 c_p0_1], .agg #[Vi p1_0, Vl a_p1_1 p1_1 c_p1_1]]) rfl ?_
 have hev : Ev [] w w := Ev.refl _ _
 have hfr : FR w.heap.size [] := FR.nil _
 refine c_sp ?_
 refine x_box (xv := .agg #[Vi p0_0, Vl a_p0_1 p0_1 c_p0_1]) rfl rfl rfl (fun b3 w3 hq3 hb3 he3 hz3 => ?_)
 replace hb3 : w3.heap[b3]? = some (.cells #[Vi p0_0, Vl a_p0_1 p0_1 c_p0_1] 27 (0, 0)) := hb3
 refine inl1 ?_
 have hst := Stp.box (ls := [M]) he3 hq3
 replace hs_p0_1 := hs_p0_1.step hst
 replace hs_p1_1 := hs_p1_1.step hst
 replace hms := hms.box he3 hq3 hb3
 replace hfr := hfr.box hev.size hq3
 replace hev := hev.ext he3
 refine x_box (xv := .agg #[Vi p1_0, Vl a_p1_1 p1_1 c_p1_1]) rfl rfl rfl (fun b5 w5 hq5 hb5 he5 hz5 => ?_)
 replace hb5 : w5.heap[b5]? = some (.cells #[Vi p1_0, Vl a_p1_1 p1_1 c_p1_1] 27 (0, 0)) := hb5
 refine inl1 ?_
 have hst := Stp.box (ls := [[b3], M]) he5 hq5
 replace hs_p0_1 := hs_p0_1.step hst
 replace hs_p1_1 := hs_p1_1.step hst
 replace hb3 := he5.box hb3 nn
 replace hms := hms.box he5 hq5 hb5
 replace hfr := hfr.box hev.size hq5
 replace hev := hev.ext he5
 refine x_u 1 [(4, .bool false)] ?_
 refine x_ek ?_
 refine c_sp ?_
 refine x_fieldAddr (xv := Vp b3 0) (Vp b3 0) rfl rfl rfl (reads_field tfld27_0 _ _) ?_
 refine x_load (xv := Vp b3 0) (Vi p0_0) rfl rfl rfl (reads_box tcell3 hb3 nn 0 _ rfl) ?_
 refine x_fieldAddr (xv := Vp b5 0) (Vp b5 0) rfl rfl rfl (reads_field tfld27_0 _ _) ?_
 refine x_load (xv := Vp b5 0) (Vi p1_0) rfl rfl rfl (reads_box tcell3 hb5 nn 0 _ rfl) ?_
 refine x_u 2 [(9, .bool (p0_0 == p1_0)), (10, .bool (p0_0 == p1_0))] ?_
 refine x_if 10 (p0_0 == p1_0) rfl h (fun h => ?_) (fun h => ?_)
 · refine x_fieldAddr (xv := Vp b3 0) (Vp b3 1) rfl rfl rfl (reads_field tfld27_1 _ _) ?_
   refine x_load (xv := Vp b3 1) (Vl a_p0_1 p0_1 c_p0_1) rfl rfl rfl (reads_box tcell22 hb3 nn 1 _ rfl) ?_
   refine x_fieldAddr (xv := Vp b5 0) (Vp b5 1) rfl rfl rfl (reads_field tfld27_1 _ _) ?_
   refine x_load (xv := Vp b5 1) (Vl a_p1_1 p1_1 c_p1_1) rfl rfl rfl (reads_box tcell22 hb5 nn 1 _ rfl) ?_
   obtain ⟨x7, hx, h⟩ := bind_some h
   have hpk : MS w5 ([] ++ [[b5], [b3], M]) := hms.pick [some 0, some 1, some 2] _ rfl
   have hsb0 : ∀ x ∈ fl ([] ++ [[b5], [b3], M]), x ∈ fl [[b5], [b3], M] := pick_sub [some 0, some 1, some 2] _ rfl
   have hsb : ∀ x ∈ fl ([] ++ [(fl [[b5], [b3], M])]), x ∈ fl [[b5], [b3], M] := fun x hx => hsb0 x (fl_unfold x hx)
   have hcall := gen_Ints_w a_p0_1 c_p0_1 p0_1 a_p1_1 c_p1_1 p1_1 _ w5 (fl [[b5], [b3], M]) (MS.fold (P := []) hpk) (hs_p0_1.sub hsb) (hs_p1_1.sub hsb) hx
   refine x_call 36 #[] #[] [Vl a_p0_1 p0_1 c_p0_1, Vl a_p1_1 p1_1 c_p1_1] _ rfl rfl rfl rfl hcall ?_
   rintro v w8 ⟨rfl, he8⟩
   clear hcall hx
   refine inl1 ?_
   have hst := Stp.ext (ls := [[b5], [b3], M]) he8
   replace hs_p0_1 := hs_p0_1.step hst
   replace hs_p1_1 := hs_p1_1.step hst
   replace hb3 := he8.box hb3 nn
   replace hb5 := he8.box hb5 nn
   replace hms := hms.ev he8
   replace hev := hev.ext he8
   clear hpk hsb hsb0
   refine x_u 2 [(16, .bool x7), (4, .bool x7)] ?_
   refine x_ek ?_
   refine c_norm [(4, .bool x7)] ⟨rfl, trivial⟩ (fun J => ?_)
   refine c_ret ?_
   refine r_ret (r_vals [.bool x7] ⟨rfl, trivial⟩ ?_)
   have hx := some_inj h
   subst hx
   have hmr : MS w8 [M] := hms.pick [some 2] _ rfl
   have hsu : ∀ x ∈ fl [M], x ∈ fl [[b5], [b3], M] := pick_sub [some 2] _ rfl
   exact ⟨rfl, hev⟩
 refine x_u 7 [(11, undef), (12, undef), (13, undef), (14, undef), (15, undef), (16, .bool false), (4, .bool false)] ?_
 refine x_ek ?_
 refine c_norm [(4, .bool false)] ⟨rfl, trivial⟩ (fun J => ?_)
 refine c_ret ?_
 refine r_ret (r_vals [.bool false] ⟨rfl, trivial⟩ ?_)
 have hx := some_inj h
 subst hx
 have hmr : MS w5 [M] := hms.pick [some 2] _ rfl
 have hsu : ∀ x ∈ fl [M], x ∈ fl [[b5], [b3], M] := pick_sub [some 2] _ rfl
 exact ⟨rfl, hev⟩
def gen_Proofs (p0_0_0 : Int) (p0_0_1 : List Int) (p0_1 : List Int) (p1_0_0 : Int) (p1_0_1 : List Int) (p1_1 : List Int) : Option Bool :=
((gen_Plans p0_0_0 p0_0_1 p1_0_0 p1_0_1).bind fun x9 =>
(if x9 = true then
((gen_Ints p0_1 p1_1).bind fun x11 =>
some x11)
else
some false))

theorem gen_Proofs_w (p0_0_0 : Int) (a_p0_0_1 : Option Addr) (c_p0_0_1 : Nat) (p0_0_1 : List Int) (a_p0_1 : Option Addr) (c_p0_1 : Nat) (p0_1 : List Int) (p1_0_0 : Int) (a_p1_0_1 : Option Addr) (c_p1_0_1 : Nat) (p1_0_1 : List Int) (a_p1_1 : Option Addr) (c_p1_1 : Nat) (p1_1 : List Int) (r : Bool) (w : World) (M : List Nat) (hms : MS w [M]) (hs_p0_0_1 : SlR (eInt .i64) w (fl [M]) a_p0_0_1 c_p0_0_1 p0_0_1) (hs_p0_1 : SlR (eInt .i64) w (fl [M]) a_p0_1 c_p0_1 p0_1) (hs_p1_0_1 : SlR (eInt .i64) w (fl [M]) a_p1_0_1 c_p1_0_1 p1_0_1) (hs_p1_1 : SlR (eInt .i64) w (fl [M]) a_p1_1 c_p1_1 p1_1) (h : gen_Proofs p0_0_0 p0_0_1 p0_1 p1_0_0 p1_0_1 p1_1 = some r) : CallVC Try.prog 12 [.agg #[Vi p0_0_0, Vl a_p0_0_1 p0_0_1 c_p0_0_1, Vl a_p0_1 p0_1 c_p0_1], .agg #[Vi p1_0_0, Vl a_p1_0_1 p1_0_1 c_p1_0_1, Vl a_p1_1 p1_1 c_p1_1]] w fun v w' => v = .bool r ∧ Ev [] w w' := by
 refine calls_vc hmx Try.func12 (by kernel_rfl) rfl (rs := [.tmp 4]) rfl (by kernel_rfl) (args := [.agg #[Vi p0_0_0, Vl a_p0_0_1 p0_0_1 c_p0_0_1, Vl a_p0_1 p0_1 c_p0_1], .agg #[Vi p1_0_0, Vl a_p1_0_1 p1_0_1 c_p1_0_1, Vl a_p1_1 p1_1 c_p1_1]]) rfl ?_
 have hev : Ev [] w w := Ev.refl _ _
 have hfr : FR w.heap.size [] := FR.nil _
 refine c_sp ?_
 refine x_box (xv := .agg #[Vi p0_0_0, Vl a_p0_0_1 p0_0_1 c_p0_0_1, Vl a_p0_1 p0_1 c_p0_1]) rfl rfl rfl (fun b5 w5 hq5 hb5 he5 hz5 => ?_)
 replace hb5 : w5.heap[b5]? = some (.cells #[Vi p0_0_0, Vl a_p0_0_1 p0_0_1 c_p0_0_1, Vl a_p0_1 p0_1 c_p0_1] 29 (0, 0)) := hb5
 refine inl1 ?_
 have hst := Stp.box (ls := [M]) he5 hq5
 replace hs_p0_0_1 := hs_p0_0_1.step hst
 replace hs_p0_1 := hs_p0_1.step hst
 replace hs_p1_0_1 := hs_p1_0_1.step hst
 replace hs_p1_1 := hs_p1_1.step hst
 replace hms := hms.box he5 hq5 hb5
 replace hfr := hfr.box hev.size hq5
 replace hev := hev.ext he5
 refine x_box (xv := .agg #[Vi p1_0_0, Vl a_p1_0_1 p1_0_1 c_p1_0_1, Vl a_p1_1 p1_1 c_p1_1]) rfl rfl rfl (fun b7 w7 hq7 hb7 he7 hz7 => ?_)
 replace hb7 : w7.heap[b7]? = some (.cells #[Vi p1_0_0, Vl a_p1_0_1 p1_0_1 c_p1_0_1, Vl a_p1_1 p1_1 c_p1_1] 29 (0, 0)) := hb7
 refine inl1 ?_
 have hst := Stp.box (ls := [[b5], M]) he7 hq7
 replace hs_p0_0_1 := hs_p0_0_1.step hst
 replace hs_p0_1 := hs_p0_1.step hst
 replace hs_p1_0_1 := hs_p1_0_1.step hst
 replace hs_p1_1 := hs_p1_1.step hst
 replace hb5 := he7.box hb5 nn
 replace hms := hms.box he7 hq7 hb7
 replace hfr := hfr.box hev.size hq7
 replace hev := hev.ext he7
 refine x_u 1 [(4, .bool false)] ?_
 refine x_ek ?_
 refine c_sp ?_
 refine x_fieldAddr (xv := Vp b5 0) (Vp b5 0) rfl rfl rfl (reads_field tfld29_0 _ _) ?_
 refine x_load (xv := Vp b5 0) (.agg #[Vi p0_0_0, Vl a_p0_0_1 p0_0_1 c_p0_0_1]) rfl rfl rfl (reads_boxagg 0 [Vi p0_0_0, Vl a_p0_0_1 p0_0_1 c_p0_0_1] tagg27 hb5 nn rfl) ?_
 refine x_fieldAddr (xv := Vp b7 0) (Vp b7 0) rfl rfl rfl (reads_field tfld29_0 _ _) ?_
 refine x_load (xv := Vp b7 0) (.agg #[Vi p1_0_0, Vl a_p1_0_1 p1_0_1 c_p1_0_1]) rfl rfl rfl (reads_boxagg 0 [Vi p1_0_0, Vl a_p1_0_1 p1_0_1 c_p1_0_1] tagg27 hb7 nn rfl) ?_
 obtain ⟨x9, hx, h⟩ := bind_some h
 have hpk : MS w7 ([] ++ [[b7], [b5], M]) := hms.pick [some 0, some 1, some 2] _ rfl
 have hsb0 : ∀ x ∈ fl ([] ++ [[b7], [b5], M]), x ∈ fl [[b7], [b5], M] := pick_sub [some 0, some 1, some 2] _ rfl
 have hsb : ∀ x ∈ fl ([] ++ [(fl [[b7], [b5], M])]), x ∈ fl [[b7], [b5], M] := fun x hx => hsb0 x (fl_unfold x hx)
 have hcall := gen_Plans_w p0_0_0 a_p0_0_1 c_p0_0_1 p0_0_1 p1_0_0 a_p1_0_1 c_p1_0_1 p1_0_1 _ w7 (fl [[b7], [b5], M]) (MS.fold (P := []) hpk) (hs_p0_0_1.sub hsb) (hs_p1_0_1.sub hsb) hx
 refine x_call 35 #[] #[] [.agg #[Vi p0_0_0, Vl a_p0_0_1 p0_0_1 c_p0_0_1], .agg #[Vi p1_0_0, Vl a_p1_0_1 p1_0_1 c_p1_0_1]] _ rfl rfl rfl rfl hcall ?_
 rintro v w10 ⟨rfl, he10⟩
 clear hcall hx
 refine inl1 ?_
 have hst := Stp.ext (ls := [[b7], [b5], M]) he10
 replace hs_p0_0_1 := hs_p0_0_1.step hst
 replace hs_p0_1 := hs_p0_1.step hst
 replace hs_p1_0_1 := hs_p1_0_1.step hst
 replace hs_p1_1 := hs_p1_1.step hst
 replace hb5 := he10.box hb5 nn
 replace hb7 := he10.box hb7 nn
 replace hms := hms.ev he10
 replace hev := hev.ext he10
 clear hpk hsb hsb0
 refine x_u 1 [(10, .bool x9)] ?_
 refine x_if 10 x9 rfl h (fun h => ?_) (fun h => ?_)
 · refine x_fieldAddr (xv := Vp b5 0) (Vp b5 2) rfl rfl rfl (reads_field tfld29_1 _ _) ?_
   refine x_load (xv := Vp b5 2) (Vl a_p0_1 p0_1 c_p0_1) rfl rfl rfl (reads_box tcell22 hb5 nn 2 _ rfl) ?_
   refine x_fieldAddr (xv := Vp b7 0) (Vp b7 2) rfl rfl rfl (reads_field tfld29_1 _ _) ?_
   refine x_load (xv := Vp b7 2) (Vl a_p1_1 p1_1 c_p1_1) rfl rfl rfl (reads_box tcell22 hb7 nn 2 _ rfl) ?_
   obtain ⟨x11, hx, h⟩ := bind_some h
   have hpk : MS w10 ([] ++ [[b7], [b5], M]) := hms.pick [some 0, some 1, some 2] _ rfl
   have hsb0 : ∀ x ∈ fl ([] ++ [[b7], [b5], M]), x ∈ fl [[b7], [b5], M] := pick_sub [some 0, some 1, some 2] _ rfl
   have hsb : ∀ x ∈ fl ([] ++ [(fl [[b7], [b5], M])]), x ∈ fl [[b7], [b5], M] := fun x hx => hsb0 x (fl_unfold x hx)
   have hcall := gen_Ints_w a_p0_1 c_p0_1 p0_1 a_p1_1 c_p1_1 p1_1 _ w10 (fl [[b7], [b5], M]) (MS.fold (P := []) hpk) (hs_p0_1.sub hsb) (hs_p1_1.sub hsb) hx
   refine x_call 36 #[] #[] [Vl a_p0_1 p0_1 c_p0_1, Vl a_p1_1 p1_1 c_p1_1] _ rfl rfl rfl rfl hcall ?_
   rintro v w12 ⟨rfl, he12⟩
   clear hcall hx
   refine inl1 ?_
   have hst := Stp.ext (ls := [[b7], [b5], M]) he12
   replace hs_p0_0_1 := hs_p0_0_1.step hst
   replace hs_p0_1 := hs_p0_1.step hst
   replace hs_p1_0_1 := hs_p1_0_1.step hst
   replace hs_p1_1 := hs_p1_1.step hst
   replace hb5 := he12.box hb5 nn
   replace hb7 := he12.box hb7 nn
   replace hms := hms.ev he12
   replace hev := hev.ext he12
   clear hpk hsb hsb0
   refine x_u 2 [(16, .bool x11), (4, .bool x11)] ?_
   refine x_ek ?_
   refine c_norm [(4, .bool x11)] ⟨rfl, trivial⟩ (fun J => ?_)
   refine c_ret ?_
   refine r_ret (r_vals [.bool x11] ⟨rfl, trivial⟩ ?_)
   have hx := some_inj h
   subst hx
   have hmr : MS w12 [M] := hms.pick [some 2] _ rfl
   have hsu : ∀ x ∈ fl [M], x ∈ fl [[b7], [b5], M] := pick_sub [some 2] _ rfl
   exact ⟨rfl, hev⟩
 refine x_u 7 [(11, undef), (12, undef), (13, undef), (14, undef), (15, undef), (16, .bool false), (4, .bool false)] ?_
 refine x_ek ?_
 refine c_norm [(4, .bool false)] ⟨rfl, trivial⟩ (fun J => ?_)
 refine c_ret ?_
 refine r_ret (r_vals [.bool false] ⟨rfl, trivial⟩ ?_)
 have hx := some_inj h
 subst hx
 have hmr : MS w10 [M] := hms.pick [some 2] _ rfl
 have hsu : ∀ x ∈ fl [M], x ∈ fl [[b7], [b5], M] := pick_sub [some 2] _ rfl
 exact ⟨rfl, hev⟩
end Go.Proofs.Ytcignnfdpgeogaa
