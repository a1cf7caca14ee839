
/- Walks, printed by program: each function returns what the partial function of the same name returns. Conditions: those of each theorem. -/
import Derived.Test.YtgeceohdppecgaaGT
import Derived.Test.YtgeceohdppecgaaGslices
set_option linter.unusedVariables false
set_option linter.unusedSimpArgs false
set_option maxRecDepth 4000
namespace Go.Proofs.Ytgeceohdppecgaa
open Go Go.V Go.Proofs
def inventory_room_L5 (p1 : List Int) (p2 : List Int) (s : Int × Int) : Option (Step (Int × Int) Int) :=
match s with
| (n_s7_l5, t14__s14_l5) =>
(if (decide (t14__s14_l5 < ((p2).length : Int))) = true then
((idx p2 t14__s14_l5).bind fun x7 =>
((idx p1 x7).bind fun x9 =>
some (.next (IntKind.i64.wrap (n_s7_l5 - x9), IntKind.i64.wrap (t14__s14_l5 + 1)))))
else
some (.done n_s7_l5))

def inventory_room (p0_0 : List UInt8) (p0_1 : Int) (p1 : List Int) (p2 : List Int) : Option Int :=
((loop (inventory_room_L5 p1 p2) (p0_1, 0)).bind fun d => match d with
| n_s7_x5 => some n_s7_x5)

theorem inventory_room_w (p0_0 : List UInt8) (p0_1 : Int) (a_p1 : Option Addr) (c_p1 : Nat) (p1 : List Int) (a_p2 : Option Addr) (c_p2 : Nat) (p2 : List Int) (r : Int) (w : World) (M : List Nat) (hms : MS w [M]) (hs_p1 : SlR (eInt .i64) w (fl [M]) a_p1 c_p1 p1) (hs_p2 : SlR (eInt .i64) w (fl [M]) a_p2 c_p2 p2) (h : inventory_room p0_0 p0_1 p1 p2 = some r) : CallVC Try.prog 25 [.agg #[Vs p0_0, Vi p0_1], Vl a_p1 p1 c_p1, Vl a_p2 p2 c_p2] w fun v w' => v = Vi r ∧ Ev [] w w' := by
 refine calls_vc hmx Try.func25 (by kernel_rfl) rfl (rs := [.tmp 6]) rfl (by kernel_rfl) (args := [.agg #[Vs p0_0, Vi p0_1], Vl a_p1 p1 c_p1, Vl a_p2 p2 c_p2]) rfl ?_
 have hev : Ev [] w w := Ev.refl _ _
 have hfr : FR w.heap.size [] := FR.nil _
 refine c_sp ?_
 refine x_box (xv := .agg #[Vs p0_0, Vi p0_1]) rfl rfl rfl (fun b3 w3 hq3 hb3 he3 hz3 => ?_)
 replace hb3 : w3.heap[b3]? = some (.cells #[Vs p0_0, Vi p0_1] 45 (0, 0)) := hb3
 refine inl1 ?_
 have hst := Stp.box (ls := [M]) he3 hq3
 replace hs_p1 := hs_p1.step hst
 replace hs_p2 := hs_p2.step hst
 replace hms := hms.box he3 hq3 hb3
 replace hfr := hfr.box hev.size hq3
 replace hev := hev.ext he3
 refine x_u 1 [(6, Vi 0)] ?_
 refine x_ek ?_
 refine c_sp ?_
 refine x_fieldAddr (xv := Vp b3 0) (Vp b3 1) rfl rfl rfl (reads_field tfld45_1 _ _) ?_
 refine x_load (xv := Vp b3 1) (Vi p0_1) rfl rfl rfl (reads_box tcell3 hb3 nn 1 _ rfl) ?_
 refine x_u 1 [(7, Vi p0_1)] ?_
 refine x_ek ?_
 refine c_seq ?_
 refine c_sp ?_
 refine x_u 1 [(12, Vl a_p2 p2 c_p2)] ?_
 refine x_len (vs := [Vl a_p2 p2 c_p2]) (Vi ((p2).length : Int)) rfl rfl rfl (reads_len tsl22 _ _ _ _ _) ?_
 refine x_u 1 [(14, Vi 0)] ?_
 refine x_ek ?_
 refine c_block ?_
 have hpk : MS w3 [M] := hms.pick [some 1] _ rfl
 have hsu : ∀ x ∈ fl [M], x ∈ fl [[b3], M] := pick_sub [some 1] _ rfl
 replace hs_p1 := hs_p1.sub hsu
 replace hs_p2 := hs_p2.sub hsu
 replace hms := hpk
 replace hfr : FR w.heap.size [] := hfr.pick [] _ rfl
 clear hpk hsu
 obtain ⟨d5, hd5, h5⟩ := bind_some h
 obtain ⟨m5, hd5⟩ := loop_some hd5
 refine c_loop (loop_rule hmx (σ := Nat × Int × Int) (fun s => match s with | (_, n_s7_l5, t14__s14_l5) => [(1, Vl a_p1 p1 c_p1), (7, Vi n_s7_l5), (12, Vl a_p2 p2 c_p2), (13, Vi ((p2).length : Int)), (14, Vi t14__s14_l5)]) (fun s w' => match s with | (m, n_s7_l5, t14__s14_l5) => loopN (inventory_room_L5 p1 p2) m (n_s7_l5, t14__s14_l5) = some d5 ∧ Ev [] w w' ∧ MS w' [M] ∧ FR w.heap.size [] ∧ SlR (eInt .i64) w' (fl [M]) a_p1 c_p1 p1 ∧ SlR (eInt .i64) w' (fl [M]) a_p2 c_p2 p2) (fun s => s.1) (m5, p0_1, 0) ⟨rfl, rfl, rfl, rfl, rfl, trivial⟩ ⟨hd5, hev, hms, hfr, hs_p1, hs_p2⟩ ?_)
 rintro ⟨m5, n_s7_l5, t14__s14_l5⟩ J wl5 ⟨hn5, hev, hms, hfr, hs_p1, hs_p2⟩
 rcases m5 with _ | m5
 · exact (loopN_zero hn5).elim
 obtain ⟨t5, h, hn5⟩ := bind_some hn5
 refine c_sp ?_
 refine x_u 1 [(15, .bool (decide (t14__s14_l5 < ((p2).length : Int))))] ?_
 refine x_ek ?_
 refine c_norm [(1, Vl a_p1 p1 c_p1), (7, Vi n_s7_l5), (12, Vl a_p2 p2 c_p2), (13, Vi ((p2).length : Int)), (14, Vi t14__s14_l5), (15, .bool (decide (t14__s14_l5 < ((p2).length : Int))))] ⟨rfl, rfl, rfl, rfl, rfl, rfl, trivial⟩ (fun J => ?_)
 refine c_seq ?_
 refine c_if (decide (t14__s14_l5 < ((p2).length : Int))) rfl h (fun h => ?_) (fun h => ?_)
 · refine c_skip ?_
   refine k_then ?_
   refine c_seq ?_
   refine c_block ?_
   refine c_sp ?_
   obtain ⟨x7, hx7, h⟩ := bind_some h
   obtain ⟨ad7, cs7, hr7, hc7, hR⟩ := reads_index (Mo := []) tsl22 hs_p2 hx7
   obtain rfl := hR
   refine x_indexAddr (xv := Vl a_p2 p2 c_p2) (yv := Vi t14__s14_l5) (.pointer (some ad7)) rfl rfl rfl rfl hr7 ?_
   refine x_load (xv := .pointer (some ad7)) (Vi x7) rfl rfl rfl (reads_cell0 tcell3 hc7 (fun _ h => by cases h)) ?_
   refine x_u 1 [(9, Vi x7)] ?_
   refine x_ek ?_
   refine c_plain ?_
   refine x_u 3 [(18, Vi n_s7_l5), (19, Vl a_p1 p1 c_p1), (20, Vi x7)] ?_
   obtain ⟨x9, hx9, h⟩ := bind_some h
   obtain ⟨ad9, cs9, hr9, hc9, hR⟩ := reads_index (Mo := []) tsl22 hs_p1 hx9
   obtain rfl := hR
   refine x_indexAddr (xv := Vl a_p1 p1 c_p1) (yv := Vi x7) (.pointer (some ad9)) rfl rfl rfl rfl hr9 ?_
   refine x_load (xv := .pointer (some ad9)) (Vi x9) rfl rfl rfl (reads_cell0 tcell3 hc9 (fun _ h => by cases h)) ?_
   refine x_u 2 [(23, Vi (IntKind.i64.wrap (n_s7_l5 - x9))), (7, Vi (IntKind.i64.wrap (n_s7_l5 - x9)))] ?_
   refine x_end rfl ?_
   refine k_block ?_
   refine k_then ?_
   refine c_plain ?_
   refine x_u 2 [(24, Vi (IntKind.i64.wrap (t14__s14_l5 + 1))), (14, Vi (IntKind.i64.wrap (t14__s14_l5 + 1)))] ?_
   refine x_end rfl ?_
   have hx := some_inj h
   subst hx
   exact k_then ⟨(m5, IntKind.i64.wrap (n_s7_l5 - x9), IntKind.i64.wrap (t14__s14_l5 + 1)), ⟨rfl, rfl, rfl, rfl, rfl, trivial⟩, ⟨hn5, hev, hms, hfr, hs_p1, hs_p2⟩, Nat.lt_succ_self _⟩
 refine c_exit ?_
 refine k_then_exit ?_
 have hx := some_inj h
 subst hx
 have hy := some_inj hn5
 subst hy
 replace h := h5
 refine k_then_exit ?_
 refine k_block_in ?_
 refine k_then ?_
 refine c_norm [(7, Vi n_s7_l5)] ⟨rfl, trivial⟩ (fun J => ?_)
 refine c_sp ?_
 refine x_u 2 [(25, Vi n_s7_l5), (6, Vi n_s7_l5)] ?_
 refine x_ek ?_
 refine c_ret ?_
 refine r_ret (r_vals [Vi n_s7_l5] ⟨rfl, trivial⟩ ?_)
 have hx := some_inj h
 subst hx
 have hmr : MS wl5 [M] := hms.pick [some 0] _ rfl
 have hsu : ∀ x ∈ fl [M], x ∈ fl [M] := pick_sub [some 0] _ rfl
 exact ⟨rfl, hev⟩
def inventory_Valid_L19 (p1 : List Int) (x14 : List Int) (s : (List Bool) × Int) : Option (Step ((List Bool) × Int) (Unit ⊕ (List Bool))) :=
match s with
| (d11_l19, t54__s54_l19) =>
(if (decide (t54__s54_l19 < ((x14).length : Int))) = true then
((idx x14 t54__s54_l19).bind fun x21 =>
(if (decide (x21 < 0)) = true then
some (.done (.inl ()))
else
(if (decide (x21 ≥ ((p1).length : Int))) = true then
some (.done (.inl ()))
else
((idx d11_l19 x21).bind fun x23 =>
(if x23 = true then
some (.done (.inl ()))
else
((idx d11_l19 x21).bind fun x25 =>
some (.next ((d11_l19.set (Int.toNat x21) true), IntKind.i64.wrap (t54__s54_l19 + 1)))))))))
else
some (.done (.inr d11_l19)))

def inventory_Valid_L12 (p0 : List ((List UInt8) × Int)) (p1 : List Int) (p2 : List (List Int)) (s : (List Bool) × Int) : Option (Step ((List Bool) × Int) (Unit ⊕ Unit)) :=
match s with
| (d11_l12, t47__s47_l12) =>
(if (decide (t47__s47_l12 < ((p2).length : Int))) = true then
((idx p2 t47__s47_l12).bind fun x14 =>
((loop (inventory_Valid_L19 p1 x14) (d11_l12, 0)).bind fun d => match d with
| (.inl _) => some (.done (.inl ()))
| (.inr d11_x1901) => ((idx p0 t47__s47_l12).bind fun x28 =>
(if (decide (x28.2 < 0)) = true then
some (.done (.inl ()))
else
((idx p0 t47__s47_l12).bind fun x30 =>
(if (decide (x30.2 > 100000)) = true then
some (.done (.inl ()))
else
((idx p0 t47__s47_l12).bind fun x32 =>
((inventory_room x32.1 x32.2 p1 x14).bind fun x34 =>
(if (decide (x34 < 0)) = true then
some (.done (.inl ()))
else
some (.next (d11_x1901, IntKind.i64.wrap (t47__s47_l12 + 1))))))))))))
else
some (.done (.inr ())))

def inventory_Valid_L6 (p1 : List Int) (s : Int) : Option (Step Int (Unit ⊕ Unit)) :=
match s with
| t31__s31_l6 =>
(if (decide (t31__s31_l6 < ((p1).length : Int))) = true then
((idx p1 t31__s31_l6).bind fun x8 =>
(if (decide (x8 < 1)) = true then
some (.done (.inl ()))
else
(if (decide (x8 > 400)) = true then
some (.done (.inl ()))
else
some (.next (IntKind.i64.wrap (t31__s31_l6 + 1))))))
else
some (.done (.inr ())))

def inventory_Valid (p0 : List ((List UInt8) × Int)) (p1 : List Int) (p2 : List (List Int)) : Option Bool :=
(if (((p2).length : Int) != ((p0).length : Int)) = true then
some false
else
(if (decide (((p2).length : Int) > 24)) = true then
some false
else
(if (decide (((p1).length : Int) > 192)) = true then
some false
else
((loop (inventory_Valid_L6 p1) 0).bind fun d => match d with
| (.inl _) => some false
| (.inr _) => (if (0 : Int) ≤ ((p1).length : Int) ∧ (((p1).length : Int) : Int) ≤ 4294967296 then
((loop (inventory_Valid_L12 p0 p1 p2) ((List.replicate (Int.toNat ((p1).length : Int)) false : List Bool), 0)).bind fun d => match d with
| (.inl _) => some false
| (.inr _) => some true)
else none)))))

theorem inventory_Valid_w (a_p0 : Option Addr) (c_p0 : Nat) (p0 : List ((List UInt8) × Int)) (a_p1 : Option Addr) (c_p1 : Nat) (p1 : List Int) (a_p2 : Option Addr) (c_p2 : Nat) (p2 : List (List Int)) (r : Bool) (w : World) (M : List Nat) (hms : MS w [M]) (hs_p0 : SlR (eProd eStr (eInt .i64)) w (fl [M]) a_p0 c_p0 p0) (hs_p1 : SlR (eInt .i64) w (fl [M]) a_p1 c_p1 p1) (hs_p2 : SlR (eSl (eInt .i64)) w (fl [M]) a_p2 c_p2 p2) (h : inventory_Valid p0 p1 p2 = some r) : CallVC Try.prog 11 [.slice a_p0 (p0).length c_p0, .slice a_p1 (p1).length c_p1, .slice a_p2 (p2).length c_p2] w fun v w' => v = .bool r ∧ Ev [] w w' := by
 refine calls_vc hmx Try.func11 (by kernel_rfl) rfl (rs := [.tmp 6]) rfl (by kernel_rfl) (args := [.slice a_p0 (p0).length c_p0, .slice a_p1 (p1).length c_p1, .slice a_p2 (p2).length c_p2]) rfl ?_
 have hev : Ev [] w w := Ev.refl _ _
 have hfr : FR w.heap.size [] := FR.nil _
 refine c_sp ?_
 refine x_u 1 [(6, .bool false)] ?_
 refine x_ek ?_
 refine c_seq ?_
 refine c_sp ?_
 refine x_u 1 [(14, .slice a_p2 (p2).length c_p2)] ?_
 refine x_len (vs := [.slice a_p2 (p2).length c_p2]) (Vi ((p2).length : Int)) rfl rfl rfl (reads_len tsl26 _ _ _ _ _) ?_
 refine x_u 1 [(16, .slice a_p0 (p0).length c_p0)] ?_
 refine x_len (vs := [.slice a_p0 (p0).length c_p0]) (Vi ((p0).length : Int)) rfl rfl rfl (reads_len tsl25 _ _ _ _ _) ?_
 refine x_u 2 [(18, .bool (((p2).length : Int) != ((p0).length : Int))), (19, .bool (((p2).length : Int) != ((p0).length : Int)))] ?_
 refine x_if 19 (((p2).length : Int) != ((p0).length : Int)) rfl h (fun h => ?_) (fun h => ?_)
 · refine x_u 9 [(20, undef), (21, undef), (22, undef), (23, .bool true), (24, .bool true), (25, undef), (26, undef), (27, undef), (28, .bool true)] ?_
   refine x_ek ?_
   refine c_norm [(0, .slice a_p0 (p0).length c_p0), (1, .slice a_p1 (p1).length c_p1), (2, .slice a_p2 (p2).length c_p2), (28, .bool true)] ⟨rfl, rfl, rfl, rfl, trivial⟩ (fun J => ?_)
   refine c_true rfl ?_
   refine c_sp ?_
   refine x_u 1 [(6, .bool false)] ?_
   refine x_ek ?_
   refine c_ret ?_
   refine k_then_ret ?_
   refine r_ret (r_vals [.bool false] ⟨rfl, trivial⟩ ?_)
   have hx := some_inj h
   subst hx
   have hmr : MS w [M] := hms.pick [some 0] _ rfl
   have hsu : ∀ x ∈ fl [M], x ∈ fl [M] := pick_sub [some 0] _ rfl
   exact ⟨rfl, hev⟩
 refine x_u 1 [(20, .slice a_p2 (p2).length c_p2)] ?_
 refine x_len (vs := [.slice a_p2 (p2).length c_p2]) (Vi ((p2).length : Int)) rfl rfl rfl (reads_len tsl26 _ _ _ _ _) ?_
 refine x_u 3 [(22, .bool (decide (((p2).length : Int) > 24))), (23, .bool (decide (((p2).length : Int) > 24))), (24, .bool (decide (((p2).length : Int) > 24)))] ?_
 refine x_if 24 (decide (((p2).length : Int) > 24)) rfl h (fun h => ?_) (fun h => ?_)
 · refine x_u 4 [(25, undef), (26, undef), (27, undef), (28, .bool true)] ?_
   refine x_ek ?_
   refine c_norm [(0, .slice a_p0 (p0).length c_p0), (1, .slice a_p1 (p1).length c_p1), (2, .slice a_p2 (p2).length c_p2), (28, .bool true)] ⟨rfl, rfl, rfl, rfl, trivial⟩ (fun J => ?_)
   refine c_true rfl ?_
   refine c_sp ?_
   refine x_u 1 [(6, .bool false)] ?_
   refine x_ek ?_
   refine c_ret ?_
   refine k_then_ret ?_
   refine r_ret (r_vals [.bool false] ⟨rfl, trivial⟩ ?_)
   have hx := some_inj h
   subst hx
   have hmr : MS w [M] := hms.pick [some 0] _ rfl
   have hsu : ∀ x ∈ fl [M], x ∈ fl [M] := pick_sub [some 0] _ rfl
   exact ⟨rfl, hev⟩
 refine x_u 1 [(25, .slice a_p1 (p1).length c_p1)] ?_
 refine x_len (vs := [.slice a_p1 (p1).length c_p1]) (Vi ((p1).length : Int)) rfl rfl rfl (reads_len tsl22 _ _ _ _ _) ?_
 refine x_u 2 [(27, .bool (decide (((p1).length : Int) > 192))), (28, .bool (decide (((p1).length : Int) > 192)))] ?_
 refine x_ek ?_
 refine c_norm [(0, .slice a_p0 (p0).length c_p0), (1, .slice a_p1 (p1).length c_p1), (2, .slice a_p2 (p2).length c_p2), (28, .bool (decide (((p1).length : Int) > 192)))] ⟨rfl, rfl, rfl, rfl, trivial⟩ (fun J => ?_)
 refine c_if (decide (((p1).length : Int) > 192)) rfl h (fun h => ?_) (fun h => ?_)
 · refine c_sp ?_
   refine x_u 1 [(6, .bool false)] ?_
   refine x_ek ?_
   refine c_ret ?_
   refine k_then_ret ?_
   refine r_ret (r_vals [.bool false] ⟨rfl, trivial⟩ ?_)
   have hx := some_inj h
   subst hx
   have hmr : MS w [M] := hms.pick [some 0] _ rfl
   have hsu : ∀ x ∈ fl [M], x ∈ fl [M] := pick_sub [some 0] _ rfl
   exact ⟨rfl, hev⟩
 refine c_skip ?_
 refine k_then ?_
 refine c_seq ?_
 refine c_sp ?_
 refine x_u 1 [(29, .slice a_p1 (p1).length c_p1)] ?_
 refine x_len (vs := [.slice a_p1 (p1).length c_p1]) (Vi ((p1).length : Int)) rfl rfl rfl (reads_len tsl22 _ _ _ _ _) ?_
 refine x_u 1 [(31, Vi 0)] ?_
 refine x_ek ?_
 refine c_block ?_
 obtain ⟨d6, hd6, h6⟩ := bind_some h
 obtain ⟨m6, hd6⟩ := loop_some hd6
 refine c_loop (loop_rule hmx (σ := Nat × Int) (fun s => match s with | (_, t31__s31_l6) => [(0, .slice a_p0 (p0).length c_p0), (1, .slice a_p1 (p1).length c_p1), (2, .slice a_p2 (p2).length c_p2), (29, .slice a_p1 (p1).length c_p1), (30, Vi ((p1).length : Int)), (31, Vi t31__s31_l6)]) (fun s w' => match s with | (m, t31__s31_l6) => loopN (inventory_Valid_L6 p1) m t31__s31_l6 = some d6 ∧ Ev [] w w' ∧ MS w' [M] ∧ FR w.heap.size [] ∧ SlR (eProd eStr (eInt .i64)) w' (fl [M]) a_p0 c_p0 p0 ∧ SlR (eInt .i64) w' (fl [M]) a_p1 c_p1 p1 ∧ SlR (eSl (eInt .i64)) w' (fl [M]) a_p2 c_p2 p2) (fun s => s.1) (m6, 0) ⟨rfl, rfl, rfl, rfl, rfl, rfl, trivial⟩ ⟨hd6, hev, hms, hfr, hs_p0, hs_p1, hs_p2⟩ ?_)
 rintro ⟨m6, t31__s31_l6⟩ J wl6 ⟨hn6, hev, hms, hfr, hs_p0, hs_p1, hs_p2⟩
 rcases m6 with _ | m6
 · exact (loopN_zero hn6).elim
 obtain ⟨t6, h, hn6⟩ := bind_some hn6
 refine c_sp ?_
 refine x_u 1 [(32, .bool (decide (t31__s31_l6 < ((p1).length : Int))))] ?_
 refine x_ek ?_
 refine c_norm [(0, .slice a_p0 (p0).length c_p0), (1, .slice a_p1 (p1).length c_p1), (2, .slice a_p2 (p2).length c_p2), (29, .slice a_p1 (p1).length c_p1), (30, Vi ((p1).length : Int)), (31, Vi t31__s31_l6), (32, .bool (decide (t31__s31_l6 < ((p1).length : Int))))] ⟨rfl, rfl, rfl, rfl, rfl, rfl, rfl, trivial⟩ (fun J => ?_)
 refine c_seq ?_
 refine c_if (decide (t31__s31_l6 < ((p1).length : Int))) rfl h (fun h => ?_) (fun h => ?_)
 · refine c_skip ?_
   refine k_then ?_
   refine c_seq ?_
   refine c_block ?_
   refine c_sp ?_
   obtain ⟨x8, hx8, h⟩ := bind_some h
   obtain ⟨ad8, cs8, hr8, hc8, hR⟩ := reads_index (Mo := []) tsl22 hs_p1 hx8
   obtain rfl := hR
   refine x_indexAddr (xv := .slice a_p1 (p1).length c_p1) (yv := Vi t31__s31_l6) (.pointer (some ad8)) rfl rfl rfl rfl hr8 ?_
   refine x_load (xv := .pointer (some ad8)) (Vi x8) rfl rfl rfl (reads_cell0 tcell3 hc8 (fun _ h => by cases h)) ?_
   refine x_u 1 [(8, Vi x8)] ?_
   refine x_ek ?_
   refine c_sp ?_
   refine x_u 3 [(35, Vi x8), (36, .bool (decide (x8 < 1))), (37, .bool (decide (x8 < 1)))] ?_
   refine x_if 37 (decide (x8 < 1)) rfl h (fun h => ?_) (fun h => ?_)
   · refine x_u 3 [(38, undef), (39, undef), (40, .bool true)] ?_
     refine x_ek ?_
     refine c_true rfl ?_
     refine c_sp ?_
     refine x_u 1 [(6, .bool false)] ?_
     refine x_ek ?_
     refine c_ret ?_
     refine k_block_ret ?_
     refine k_then_ret ?_
     have hx := some_inj h
     subst hx
     have hy := some_inj hn6
     subst hy
     replace h := h6
     refine k_then_ret ?_
     refine k_block_ret ?_
     refine k_then_ret ?_
     refine r_ret (r_vals [.bool false] ⟨rfl, trivial⟩ ?_)
     have hx := some_inj h
     subst hx
     have hmr : MS wl6 [M] := hms.pick [some 0] _ rfl
     have hsu : ∀ x ∈ fl [M], x ∈ fl [M] := pick_sub [some 0] _ rfl
     exact ⟨rfl, hev⟩
   refine x_u 3 [(38, Vi x8), (39, .bool (decide (x8 > 400))), (40, .bool (decide (x8 > 400)))] ?_
   refine x_ek ?_
   refine c_if (decide (x8 > 400)) rfl h (fun h => ?_) (fun h => ?_)
   · refine c_sp ?_
     refine x_u 1 [(6, .bool false)] ?_
     refine x_ek ?_
     refine c_ret ?_
     refine k_block_ret ?_
     refine k_then_ret ?_
     have hx := some_inj h
     subst hx
     have hy := some_inj hn6
     subst hy
     replace h := h6
     refine k_then_ret ?_
     refine k_block_ret ?_
     refine k_then_ret ?_
     refine r_ret (r_vals [.bool false] ⟨rfl, trivial⟩ ?_)
     have hx := some_inj h
     subst hx
     have hmr : MS wl6 [M] := hms.pick [some 0] _ rfl
     have hsu : ∀ x ∈ fl [M], x ∈ fl [M] := pick_sub [some 0] _ rfl
     exact ⟨rfl, hev⟩
   refine c_skip ?_
   refine k_block ?_
   refine k_then ?_
   refine c_plain ?_
   refine x_u 2 [(41, Vi (IntKind.i64.wrap (t31__s31_l6 + 1))), (31, Vi (IntKind.i64.wrap (t31__s31_l6 + 1)))] ?_
   refine x_end rfl ?_
   have hx := some_inj h
   subst hx
   exact k_then ⟨(m6, IntKind.i64.wrap (t31__s31_l6 + 1)), ⟨rfl, rfl, rfl, rfl, rfl, rfl, trivial⟩, ⟨hn6, hev, hms, hfr, hs_p0, hs_p1, hs_p2⟩, Nat.lt_succ_self _⟩
 refine c_exit ?_
 refine k_then_exit ?_
 have hx := some_inj h
 subst hx
 have hy := some_inj hn6
 subst hy
 replace h := h6
 refine k_then_exit ?_
 refine k_block_in ?_
 refine k_then ?_
 refine c_norm [(0, .slice a_p0 (p0).length c_p0), (1, .slice a_p1 (p1).length c_p1), (2, .slice a_p2 (p2).length c_p2)] ⟨rfl, rfl, rfl, trivial⟩ (fun J => ?_)
 refine c_sp ?_
 refine x_u 1 [(42, .slice a_p1 (p1).length c_p1)] ?_
 refine x_len (vs := [.slice a_p1 (p1).length c_p1]) (Vi ((p1).length : Int)) rfl rfl rfl (reads_len tsl22 _ _ _ _ _) ?_
 have hg := guard_l h
 replace h := guard_r h
 obtain ⟨a10, c10, w10, hr10, he10, hn10, hw10⟩ := own_make (e := eBool) tel56 wl6 ((p1).length : Int) hg.1 hg.2 false (fun _ _ => rfl)
 refine x_makeSlice _ w10 (xv := Vi ((p1).length : Int)) (yv := Vi ((p1).length : Int)) rfl rfl rfl rfl hr10 ?_
 refine inl1 ?_
 have hst := Stp.push (ls := [M]) (l := blk a10) he10 (fun _ h => by cases h) (fun b hb => (hn10 b hb).1)
 replace hs_p0 := hs_p0.step hst
 replace hs_p1 := hs_p1.step hst
 replace hs_p2 := hs_p2.step hst
 replace hms := hms.push he10 hn10
 replace hfr := hfr.push (fun b hb => Nat.le_trans hev.size (hn10 b hb).1)
 replace hev := hev.ext he10
 have ho10 := hw10 (fl [blk a10, M])
 clear hw10
 refine x_u 1 [(9, .slice a10 ((List.replicate (Int.toNat ((p1).length : Int)) false : List Bool)).length c10)] ?_
 refine x_ek ?_
 refine c_seq ?_
 refine c_sp ?_
 refine x_u 1 [(45, .slice a_p2 (p2).length c_p2)] ?_
 refine x_len (vs := [.slice a_p2 (p2).length c_p2]) (Vi ((p2).length : Int)) rfl rfl rfl (reads_len tsl26 _ _ _ _ _) ?_
 refine x_u 1 [(47, Vi 0)] ?_
 refine x_ek ?_
 refine c_block ?_
 obtain ⟨d12, hd12, h12⟩ := bind_some h
 obtain ⟨m12, hd12⟩ := loop_some hd12
 refine c_loop (loop_rule hmx (σ := Nat × (List Bool) × Int) (fun s => match s with | (_, d11_l12, t47__s47_l12) => [(0, .slice a_p0 (p0).length c_p0), (1, .slice a_p1 (p1).length c_p1), (9, .slice a10 (d11_l12).length c10), (45, .slice a_p2 (p2).length c_p2), (46, Vi ((p2).length : Int)), (47, Vi t47__s47_l12)]) (fun s w' => match s with | (m, d11_l12, t47__s47_l12) => loopN (inventory_Valid_L12 p0 p1 p2) m (d11_l12, t47__s47_l12) = some d12 ∧ Ev [] w w' ∧ MS w' [blk a10, M] ∧ FR w.heap.size [blk a10] ∧ SlR (eProd eStr (eInt .i64)) w' (fl [blk a10, M]) a_p0 c_p0 p0 ∧ SlR (eInt .i64) w' (fl [blk a10, M]) a_p1 c_p1 p1 ∧ OwnS eBool 4 w' (fl [blk a10, M]) a10 c10 d11_l12 ∧ SlR (eSl (eInt .i64)) w' (fl [blk a10, M]) a_p2 c_p2 p2) (fun s => s.1) (m12, (List.replicate (Int.toNat ((p1).length : Int)) false : List Bool), 0) ⟨rfl, rfl, rfl, rfl, rfl, rfl, trivial⟩ ⟨hd12, hev, hms, hfr, hs_p0, hs_p1, ho10, hs_p2⟩ ?_)
 rintro ⟨m12, d11_l12, t47__s47_l12⟩ J wl12 ⟨hn12, hev, hms, hfr, hs_p0, hs_p1, ho10, hs_p2⟩
 rcases m12 with _ | m12
 · exact (loopN_zero hn12).elim
 obtain ⟨t12, h, hn12⟩ := bind_some hn12
 refine c_sp ?_
 refine x_u 1 [(48, .bool (decide (t47__s47_l12 < ((p2).length : Int))))] ?_
 refine x_ek ?_
 refine c_norm [(0, .slice a_p0 (p0).length c_p0), (1, .slice a_p1 (p1).length c_p1), (9, .slice a10 (d11_l12).length c10), (45, .slice a_p2 (p2).length c_p2), (46, Vi ((p2).length : Int)), (47, Vi t47__s47_l12), (48, .bool (decide (t47__s47_l12 < ((p2).length : Int))))] ⟨rfl, rfl, rfl, rfl, rfl, rfl, rfl, trivial⟩ (fun J => ?_)
 refine c_seq ?_
 refine c_if (decide (t47__s47_l12 < ((p2).length : Int))) rfl h (fun h => ?_) (fun h => ?_)
 · refine c_skip ?_
   refine k_then ?_
   refine c_seq ?_
   refine c_block ?_
   refine c_sp ?_
   refine x_u 1 [(49, Vi t47__s47_l12)] ?_
   obtain ⟨x14, hx14, h⟩ := bind_some h
   obtain ⟨ad14, cs14, hr14, hc14, hR⟩ := reads_index (Mo := []) tsl26 hs_p2 hx14
   obtain ⟨a15, c15, rfl, hs15⟩ := hR
   refine x_indexAddr (xv := .slice a_p2 (p2).length c_p2) (yv := Vi t47__s47_l12) (.pointer (some ad14)) rfl rfl rfl rfl hr14 ?_
   refine x_load (xv := .pointer (some ad14)) (.slice a15 (x14).length c15) rfl rfl rfl (reads_cell0 tcell22 hc14 (fun _ h => by cases h)) ?_
   refine x_u 2 [(10, Vi t47__s47_l12), (11, .slice a15 (x14).length c15)] ?_
   refine x_ek ?_
   refine c_seq ?_
   refine c_sp ?_
   refine x_u 1 [(52, .slice a15 (x14).length c15)] ?_
   refine x_len (vs := [.slice a15 (x14).length c15]) (Vi ((x14).length : Int)) rfl rfl rfl (reads_len tsl22 _ _ _ _ _) ?_
   refine x_u 1 [(54, Vi 0)] ?_
   refine x_ek ?_
   refine c_block ?_
   obtain ⟨d19, hd19, h19⟩ := bind_some h
   obtain ⟨m19, hd19⟩ := loop_some hd19
   refine c_loop (loop_rule hmx (σ := Nat × (List Bool) × Int) (fun s => match s with | (_, d11_l19, t54__s54_l19) => [(0, .slice a_p0 (p0).length c_p0), (1, .slice a_p1 (p1).length c_p1), (9, .slice a10 (d11_l19).length c10), (10, Vi t47__s47_l12), (11, .slice a15 (x14).length c15), (45, .slice a_p2 (p2).length c_p2), (46, Vi ((p2).length : Int)), (47, Vi t47__s47_l12), (52, .slice a15 (x14).length c15), (53, Vi ((x14).length : Int)), (54, Vi t54__s54_l19)]) (fun s w' => match s with | (m, d11_l19, t54__s54_l19) => loopN (inventory_Valid_L19 p1 x14) m (d11_l19, t54__s54_l19) = some d19 ∧ Ev [] w w' ∧ MS w' [blk a10, M] ∧ FR w.heap.size [blk a10] ∧ SlR (eProd eStr (eInt .i64)) w' (fl [blk a10, M]) a_p0 c_p0 p0 ∧ SlR (eInt .i64) w' (fl [blk a10, M]) a_p1 c_p1 p1 ∧ OwnS eBool 4 w' (fl [blk a10, M]) a10 c10 d11_l19 ∧ SlR (eInt .i64) w' (fl [blk a10, M]) a15 c15 x14 ∧ SlR (eSl (eInt .i64)) w' (fl [blk a10, M]) a_p2 c_p2 p2) (fun s => s.1) (m19, d11_l12, 0) ⟨rfl, rfl, rfl, rfl, rfl, rfl, rfl, rfl, rfl, rfl, rfl, trivial⟩ ⟨hd19, hev, hms, hfr, hs_p0, hs_p1, ho10, hs15, hs_p2⟩ ?_)
   rintro ⟨m19, d11_l19, t54__s54_l19⟩ J wl19 ⟨hn19, hev, hms, hfr, hs_p0, hs_p1, ho10, hs15, hs_p2⟩
   rcases m19 with _ | m19
   · exact (loopN_zero hn19).elim
   obtain ⟨t19, h, hn19⟩ := bind_some hn19
   refine c_sp ?_
   refine x_u 1 [(55, .bool (decide (t54__s54_l19 < ((x14).length : Int))))] ?_
   refine x_ek ?_
   refine c_norm [(0, .slice a_p0 (p0).length c_p0), (1, .slice a_p1 (p1).length c_p1), (9, .slice a10 (d11_l19).length c10), (10, Vi t47__s47_l12), (11, .slice a15 (x14).length c15), (45, .slice a_p2 (p2).length c_p2), (46, Vi ((p2).length : Int)), (47, Vi t47__s47_l12), (52, .slice a15 (x14).length c15), (53, Vi ((x14).length : Int)), (54, Vi t54__s54_l19), (55, .bool (decide (t54__s54_l19 < ((x14).length : Int))))] ⟨rfl, rfl, rfl, rfl, rfl, rfl, rfl, rfl, rfl, rfl, rfl, rfl, trivial⟩ (fun J => ?_)
   refine c_seq ?_
   refine c_if (decide (t54__s54_l19 < ((x14).length : Int))) rfl h (fun h => ?_) (fun h => ?_)
   · refine c_skip ?_
     refine k_then ?_
     refine c_seq ?_
     refine c_block ?_
     refine c_sp ?_
     obtain ⟨x21, hx21, h⟩ := bind_some h
     obtain ⟨ad21, cs21, hr21, hc21, hR⟩ := reads_index (Mo := []) tsl22 hs15 hx21
     obtain rfl := hR
     refine x_indexAddr (xv := .slice a15 (x14).length c15) (yv := Vi t54__s54_l19) (.pointer (some ad21)) rfl rfl rfl rfl hr21 ?_
     refine x_load (xv := .pointer (some ad21)) (Vi x21) rfl rfl rfl (reads_cell0 tcell3 hc21 (fun _ h => by cases h)) ?_
     refine x_u 1 [(13, Vi x21)] ?_
     refine x_ek ?_
     refine c_seq ?_
     refine c_sp ?_
     refine x_u 3 [(58, Vi x21), (59, .bool (decide (x21 < 0))), (60, .bool (decide (x21 < 0)))] ?_
     refine x_if 60 (decide (x21 < 0)) rfl h (fun h => ?_) (fun h => ?_)
     · refine x_u 11 [(61, undef), (62, undef), (63, undef), (64, undef), (65, .bool true), (66, .bool true), (67, undef), (68, undef), (69, undef), (70, undef), (71, .bool true)] ?_
       refine x_ek ?_
       refine c_norm [(0, .slice a_p0 (p0).length c_p0), (1, .slice a_p1 (p1).length c_p1), (9, .slice a10 (d11_l19).length c10), (10, Vi t47__s47_l12), (11, .slice a15 (x14).length c15), (13, Vi x21), (45, .slice a_p2 (p2).length c_p2), (46, Vi ((p2).length : Int)), (47, Vi t47__s47_l12), (52, .slice a15 (x14).length c15), (53, Vi ((x14).length : Int)), (54, Vi t54__s54_l19), (71, .bool true)] ⟨rfl, rfl, rfl, rfl, rfl, rfl, rfl, rfl, rfl, rfl, rfl, rfl, rfl, trivial⟩ (fun J => ?_)
       refine c_true rfl ?_
       refine c_sp ?_
       refine x_u 1 [(6, .bool false)] ?_
       refine x_ek ?_
       refine c_ret ?_
       refine k_then_ret ?_
       refine k_block_ret ?_
       refine k_then_ret ?_
       have hx := some_inj h
       subst hx
       have hy := some_inj hn19
       subst hy
       replace h := h19
       refine k_then_ret ?_
       refine k_block_ret ?_
       refine k_then_ret ?_
       refine k_block_ret ?_
       refine k_then_ret ?_
       have hx := some_inj h
       subst hx
       have hy := some_inj hn12
       subst hy
       replace h := h12
       refine k_then_ret ?_
       refine k_block_ret ?_
       refine k_then_ret ?_
       refine r_ret (r_vals [.bool false] ⟨rfl, trivial⟩ ?_)
       have hx := some_inj h
       subst hx
       have hmr : MS wl19 [M] := hms.pick [some 1] _ rfl
       have hsu : ∀ x ∈ fl [M], x ∈ fl [blk a10, M] := pick_sub [some 1] _ rfl
       exact ⟨rfl, hev⟩
     refine x_u 2 [(61, Vi x21), (62, .slice a_p1 (p1).length c_p1)] ?_
     refine x_len (vs := [.slice a_p1 (p1).length c_p1]) (Vi ((p1).length : Int)) rfl rfl rfl (reads_len tsl22 _ _ _ _ _) ?_
     refine x_u 3 [(64, .bool (decide (x21 ≥ ((p1).length : Int)))), (65, .bool (decide (x21 ≥ ((p1).length : Int)))), (66, .bool (decide (x21 ≥ ((p1).length : Int))))] ?_
     refine x_if 66 (decide (x21 ≥ ((p1).length : Int))) rfl h (fun h => ?_) (fun h => ?_)
     · refine x_u 5 [(67, undef), (68, undef), (69, undef), (70, undef), (71, .bool true)] ?_
       refine x_ek ?_
       refine c_norm [(0, .slice a_p0 (p0).length c_p0), (1, .slice a_p1 (p1).length c_p1), (9, .slice a10 (d11_l19).length c10), (10, Vi t47__s47_l12), (11, .slice a15 (x14).length c15), (13, Vi x21), (45, .slice a_p2 (p2).length c_p2), (46, Vi ((p2).length : Int)), (47, Vi t47__s47_l12), (52, .slice a15 (x14).length c15), (53, Vi ((x14).length : Int)), (54, Vi t54__s54_l19), (71, .bool true)] ⟨rfl, rfl, rfl, rfl, rfl, rfl, rfl, rfl, rfl, rfl, rfl, rfl, rfl, trivial⟩ (fun J => ?_)
       refine c_true rfl ?_
       refine c_sp ?_
       refine x_u 1 [(6, .bool false)] ?_
       refine x_ek ?_
       refine c_ret ?_
       refine k_then_ret ?_
       refine k_block_ret ?_
       refine k_then_ret ?_
       have hx := some_inj h
       subst hx
       have hy := some_inj hn19
       subst hy
       replace h := h19
       refine k_then_ret ?_
       refine k_block_ret ?_
       refine k_then_ret ?_
       refine k_block_ret ?_
       refine k_then_ret ?_
       have hx := some_inj h
       subst hx
       have hy := some_inj hn12
       subst hy
       replace h := h12
       refine k_then_ret ?_
       refine k_block_ret ?_
       refine k_then_ret ?_
       refine r_ret (r_vals [.bool false] ⟨rfl, trivial⟩ ?_)
       have hx := some_inj h
       subst hx
       have hmr : MS wl19 [M] := hms.pick [some 1] _ rfl
       have hsu : ∀ x ∈ fl [M], x ∈ fl [blk a10, M] := pick_sub [some 1] _ rfl
       exact ⟨rfl, hev⟩
     refine x_u 2 [(67, .slice a10 (d11_l19).length c10), (68, Vi x21)] ?_
     obtain ⟨x23, hx23, h⟩ := bind_some h
     obtain ⟨g23, cs23, ha23, hr23, hc23, hR⟩ := own_index (Mo := []) tsl56 ho10 hx23
     obtain rfl := hR
     refine x_indexAddr (xv := .slice a10 (d11_l19).length c10) (yv := Vi x21) (.pointer (some ⟨g23, (Int.toNat x21) * eBool.n, none⟩)) rfl rfl rfl rfl hr23 ?_
     refine x_load (xv := .pointer (some ⟨g23, (Int.toNat x21) * eBool.n, none⟩)) (.bool x23) rfl rfl rfl (reads_cell0 tcell4 hc23 (fun _ h => by cases h)) ?_
     refine x_u 1 [(71, .bool x23)] ?_
     refine x_ek ?_
     refine c_norm [(0, .slice a_p0 (p0).length c_p0), (1, .slice a_p1 (p1).length c_p1), (9, .slice a10 (d11_l19).length c10), (10, Vi t47__s47_l12), (11, .slice a15 (x14).length c15), (13, Vi x21), (45, .slice a_p2 (p2).length c_p2), (46, Vi ((p2).length : Int)), (47, Vi t47__s47_l12), (52, .slice a15 (x14).length c15), (53, Vi ((x14).length : Int)), (54, Vi t54__s54_l19), (71, .bool x23)] ⟨rfl, rfl, rfl, rfl, rfl, rfl, rfl, rfl, rfl, rfl, rfl, rfl, rfl, trivial⟩ (fun J => ?_)
     refine c_if x23 rfl h (fun h => ?_) (fun h => ?_)
     · refine c_sp ?_
       refine x_u 1 [(6, .bool false)] ?_
       refine x_ek ?_
       refine c_ret ?_
       refine k_then_ret ?_
       refine k_block_ret ?_
       refine k_then_ret ?_
       have hx := some_inj h
       subst hx
       have hy := some_inj hn19
       subst hy
       replace h := h19
       refine k_then_ret ?_
       refine k_block_ret ?_
       refine k_then_ret ?_
       refine k_block_ret ?_
       refine k_then_ret ?_
       have hx := some_inj h
       subst hx
       have hy := some_inj hn12
       subst hy
       replace h := h12
       refine k_then_ret ?_
       refine k_block_ret ?_
       refine k_then_ret ?_
       refine r_ret (r_vals [.bool false] ⟨rfl, trivial⟩ ?_)
       have hx := some_inj h
       subst hx
       have hmr : MS wl19 [M] := hms.pick [some 1] _ rfl
       have hsu : ∀ x ∈ fl [M], x ∈ fl [blk a10, M] := pick_sub [some 1] _ rfl
       exact ⟨rfl, hev⟩
     refine c_skip ?_
     refine k_then ?_
     refine c_plain ?_
     refine x_u 2 [(72, .slice a10 (d11_l19).length c10), (73, Vi x21)] ?_
     obtain ⟨x25, hx25, h⟩ := bind_some h
     obtain ⟨g25, cs25, ha25, hr25, hc25, hR⟩ := own_index (Mo := []) tsl56 ho10 hx25
     obtain rfl := hR
     refine x_indexAddr (xv := .slice a10 (d11_l19).length c10) (yv := Vi x21) (.pointer (some ⟨g25, (Int.toNat x21) * eBool.n, none⟩)) rfl rfl rfl rfl hr25 ?_
     obtain ⟨w27, hr27, he27, ho27⟩ := own_storeE ha25 (y := true) 0 (.bool true) tcell4 ho10 (mem_flat 0 rfl) hx25 rfl rfl (fun _ _ _ hR => set_bool hR)
     refine x_store w27 (xv := .pointer (some ⟨g25, (Int.toNat x21) * eBool.n, none⟩)) (yv := .bool true) rfl rfl rfl rfl hr27 ?_
     refine inl1 ?_
     have hst := Stp.ev' (ls := [blk a10, M]) he27 (mem_flat 0 rfl)
     replace hs_p0 := hs_p0.step hst
     replace hs_p1 := hs_p1.step hst
     replace hs15 := hs15.step hst
     replace hs_p2 := hs_p2.step hst
     replace hms := hms.ev he27
     replace hev := hev.then he27 (fun b hb => .inr (hfr.at 0 rfl b hb))
     replace ho10 := ho27
     have hsl : (Value.slice a10 (d11_l19).length c10) = (Value.slice a10 ((d11_l19.set (Int.toNat x21) true)).length c10) := by first | (rw [List.length_set]; done) | simp only [List.length_set]
     try rw [hsl]
     clear hsl
     refine x_end rfl ?_
     refine k_block ?_
     refine k_then ?_
     refine c_plain ?_
     refine x_u 2 [(75, Vi (IntKind.i64.wrap (t54__s54_l19 + 1))), (54, Vi (IntKind.i64.wrap (t54__s54_l19 + 1)))] ?_
     refine x_end rfl ?_
     have hx := some_inj h
     subst hx
     exact k_then ⟨(m19, (d11_l19.set (Int.toNat x21) true), IntKind.i64.wrap (t54__s54_l19 + 1)), ⟨rfl, rfl, rfl, rfl, rfl, rfl, rfl, rfl, rfl, rfl, rfl, trivial⟩, ⟨hn19, hev, hms, hfr, hs_p0, hs_p1, ho10, hs15, hs_p2⟩, Nat.lt_succ_self _⟩
   refine c_exit ?_
   refine k_then_exit ?_
   have hx := some_inj h
   subst hx
   have hy := some_inj hn19
   subst hy
   replace h := h19
   refine k_then_exit ?_
   refine k_block_in ?_
   refine k_then ?_
   refine c_norm [(0, .slice a_p0 (p0).length c_p0), (1, .slice a_p1 (p1).length c_p1), (9, .slice a10 (d11_l19).length c10), (10, Vi t47__s47_l12), (11, .slice a15 (x14).length c15), (45, .slice a_p2 (p2).length c_p2), (46, Vi ((p2).length : Int)), (47, Vi t47__s47_l12)] ⟨rfl, rfl, rfl, rfl, rfl, rfl, rfl, rfl, trivial⟩ (fun J => ?_)
   refine c_sp ?_
   refine x_u 2 [(76, .slice a_p0 (p0).length c_p0), (77, Vi t47__s47_l12)] ?_
   obtain ⟨x28, hx28, h⟩ := bind_some h
   obtain ⟨ad28, cs28, hr28, hc28, hR⟩ := reads_index (Mo := []) tsl25 hs_p0 hx28
   obtain ⟨_, _, rfl, rfl, rfl⟩ := hR
   refine x_indexAddr (xv := .slice a_p0 (p0).length c_p0) (yv := Vi t47__s47_l12) (.pointer (some ad28)) rfl rfl rfl rfl hr28 ?_
   refine x_fieldAddr (xv := .pointer (some ad28)) (.pointer (some (Addr.add ad28 1))) rfl rfl rfl (reads_field tfld45_1 _ _) ?_
   refine x_load (xv := .pointer (some (Addr.add ad28 1))) (Vi x28.2) rfl rfl rfl (reads_cell tcell3 hc28 (fun _ h => by cases h) 1 _ rfl) ?_
   refine x_u 2 [(81, .bool (decide (x28.2 < 0))), (82, .bool (decide (x28.2 < 0)))] ?_
   refine x_if 82 (decide (x28.2 < 0)) rfl h (fun h => ?_) (fun h => ?_)
   · refine x_u 17 [(83, undef), (84, undef), (85, undef), (86, undef), (87, undef), (88, undef), (89, .bool true), (90, .bool true), (91, undef), (92, undef), (93, undef), (94, undef), (95, undef), (96, undef), (97, undef), (98, undef), (99, .bool true)] ?_
     refine x_ek ?_
     refine c_norm [(0, .slice a_p0 (p0).length c_p0), (1, .slice a_p1 (p1).length c_p1), (9, .slice a10 (d11_l19).length c10), (45, .slice a_p2 (p2).length c_p2), (46, Vi ((p2).length : Int)), (47, Vi t47__s47_l12), (99, .bool true)] ⟨rfl, rfl, rfl, rfl, rfl, rfl, rfl, trivial⟩ (fun J => ?_)
     refine c_true rfl ?_
     refine c_sp ?_
     refine x_u 1 [(6, .bool false)] ?_
     refine x_ek ?_
     refine c_ret ?_
     refine k_block_ret ?_
     refine k_then_ret ?_
     have hx := some_inj h
     subst hx
     have hy := some_inj hn12
     subst hy
     replace h := h12
     refine k_then_ret ?_
     refine k_block_ret ?_
     refine k_then_ret ?_
     refine r_ret (r_vals [.bool false] ⟨rfl, trivial⟩ ?_)
     have hx := some_inj h
     subst hx
     have hmr : MS wl19 [M] := hms.pick [some 1] _ rfl
     have hsu : ∀ x ∈ fl [M], x ∈ fl [blk a10, M] := pick_sub [some 1] _ rfl
     exact ⟨rfl, hev⟩
   refine x_u 2 [(83, .slice a_p0 (p0).length c_p0), (84, Vi t47__s47_l12)] ?_
   obtain ⟨x30, hx30, h⟩ := bind_some h
   obtain ⟨ad30, cs30, hr30, hc30, hR⟩ := reads_index (Mo := []) tsl25 hs_p0 hx30
   obtain ⟨_, _, rfl, rfl, rfl⟩ := hR
   refine x_indexAddr (xv := .slice a_p0 (p0).length c_p0) (yv := Vi t47__s47_l12) (.pointer (some ad30)) rfl rfl rfl rfl hr30 ?_
   refine x_fieldAddr (xv := .pointer (some ad30)) (.pointer (some (Addr.add ad30 1))) rfl rfl rfl (reads_field tfld45_1 _ _) ?_
   refine x_load (xv := .pointer (some (Addr.add ad30 1))) (Vi x30.2) rfl rfl rfl (reads_cell tcell3 hc30 (fun _ h => by cases h) 1 _ rfl) ?_
   refine x_u 3 [(88, .bool (decide (x30.2 > 100000))), (89, .bool (decide (x30.2 > 100000))), (90, .bool (decide (x30.2 > 100000)))] ?_
   refine x_if 90 (decide (x30.2 > 100000)) rfl h (fun h => ?_) (fun h => ?_)
   · refine x_u 9 [(91, undef), (92, undef), (93, undef), (94, undef), (95, undef), (96, undef), (97, undef), (98, undef), (99, .bool true)] ?_
     refine x_ek ?_
     refine c_norm [(0, .slice a_p0 (p0).length c_p0), (1, .slice a_p1 (p1).length c_p1), (9, .slice a10 (d11_l19).length c10), (45, .slice a_p2 (p2).length c_p2), (46, Vi ((p2).length : Int)), (47, Vi t47__s47_l12), (99, .bool true)] ⟨rfl, rfl, rfl, rfl, rfl, rfl, rfl, trivial⟩ (fun J => ?_)
     refine c_true rfl ?_
     refine c_sp ?_
     refine x_u 1 [(6, .bool false)] ?_
     refine x_ek ?_
     refine c_ret ?_
     refine k_block_ret ?_
     refine k_then_ret ?_
     have hx := some_inj h
     subst hx
     have hy := some_inj hn12
     subst hy
     replace h := h12
     refine k_then_ret ?_
     refine k_block_ret ?_
     refine k_then_ret ?_
     refine r_ret (r_vals [.bool false] ⟨rfl, trivial⟩ ?_)
     have hx := some_inj h
     subst hx
     have hmr : MS wl19 [M] := hms.pick [some 1] _ rfl
     have hsu : ∀ x ∈ fl [M], x ∈ fl [blk a10, M] := pick_sub [some 1] _ rfl
     exact ⟨rfl, hev⟩
   refine x_u 2 [(91, .slice a_p0 (p0).length c_p0), (92, Vi t47__s47_l12)] ?_
   obtain ⟨x32, hx32, h⟩ := bind_some h
   obtain ⟨ad32, cs32, hr32, hc32, hR⟩ := reads_index (Mo := []) tsl25 hs_p0 hx32
   obtain ⟨_, _, rfl, rfl, rfl⟩ := hR
   refine x_indexAddr (xv := .slice a_p0 (p0).length c_p0) (yv := Vi t47__s47_l12) (.pointer (some ad32)) rfl rfl rfl rfl hr32 ?_
   refine x_load (xv := .pointer (some ad32)) (.agg #[Vs x32.1, Vi x32.2]) rfl rfl rfl (reads_agg tagg45 hc32 (fun _ h => by cases h)) ?_
   refine x_u 2 [(95, .slice a_p1 (p1).length c_p1), (96, .slice a15 (x14).length c15)] ?_
   obtain ⟨x34, hx, h⟩ := bind_some h
   have hpk : MS wl19 ([] ++ [blk a10, M]) := hms.pick [some 0, some 1] _ rfl
   have hsb0 : ∀ x ∈ fl ([] ++ [blk a10, M]), x ∈ fl [blk a10, M] := pick_sub [some 0, some 1] _ rfl
   have hsb : ∀ x ∈ fl ([] ++ [(fl [blk a10, M])]), x ∈ fl [blk a10, M] := fun x hx => hsb0 x (fl_unfold x hx)
   have hcall := inventory_room_w x32.1 x32.2 a_p1 c_p1 p1 a15 c15 x14 _ wl19 (fl [blk a10, M]) (MS.fold (P := []) hpk) (hs_p1.sub hsb) (hs15.sub hsb) hx
   refine x_call 25 #[] #[] [.agg #[Vs x32.1, Vi x32.2], .slice a_p1 (p1).length c_p1, .slice a15 (x14).length c15] _ rfl rfl rfl rfl hcall ?_
   rintro v w35 ⟨rfl, he35⟩
   clear hcall hx
   refine inl1 ?_
   have hst := Stp.ext (ls := [blk a10, M]) he35
   replace hs_p0 := hs_p0.step hst
   replace hs_p1 := hs_p1.step hst
   replace ho10 := ho10.step hst he35 nn2
   replace hs15 := hs15.step hst
   replace hs_p2 := hs_p2.step hst
   replace hc28 := hc28.step hst
   replace hc30 := hc30.step hst
   replace hc32 := hc32.step hst
   replace hms := hms.ev he35
   replace hev := hev.ext he35
   clear hpk hsb hsb0
   refine x_u 2 [(98, .bool (decide (x34 < 0))), (99, .bool (decide (x34 < 0)))] ?_
   refine x_ek ?_
   refine c_norm [(0, .slice a_p0 (p0).length c_p0), (1, .slice a_p1 (p1).length c_p1), (9, .slice a10 (d11_l19).length c10), (45, .slice a_p2 (p2).length c_p2), (46, Vi ((p2).length : Int)), (47, Vi t47__s47_l12), (99, .bool (decide (x34 < 0)))] ⟨rfl, rfl, rfl, rfl, rfl, rfl, rfl, trivial⟩ (fun J => ?_)
   refine c_if (decide (x34 < 0)) rfl h (fun h => ?_) (fun h => ?_)
   · refine c_sp ?_
     refine x_u 1 [(6, .bool false)] ?_
     refine x_ek ?_
     refine c_ret ?_
     refine k_block_ret ?_
     refine k_then_ret ?_
     have hx := some_inj h
     subst hx
     have hy := some_inj hn12
     subst hy
     replace h := h12
     refine k_then_ret ?_
     refine k_block_ret ?_
     refine k_then_ret ?_
     refine r_ret (r_vals [.bool false] ⟨rfl, trivial⟩ ?_)
     have hx := some_inj h
     subst hx
     have hmr : MS w35 [M] := hms.pick [some 1] _ rfl
     have hsu : ∀ x ∈ fl [M], x ∈ fl [blk a10, M] := pick_sub [some 1] _ rfl
     exact ⟨rfl, hev⟩
   refine c_skip ?_
   refine k_block ?_
   refine k_then ?_
   refine c_plain ?_
   refine x_u 2 [(100, Vi (IntKind.i64.wrap (t47__s47_l12 + 1))), (47, Vi (IntKind.i64.wrap (t47__s47_l12 + 1)))] ?_
   refine x_end rfl ?_
   have hx := some_inj h
   subst hx
   exact k_then ⟨(m12, d11_l19, IntKind.i64.wrap (t47__s47_l12 + 1)), ⟨rfl, rfl, rfl, rfl, rfl, rfl, trivial⟩, ⟨hn12, hev, hms, hfr, hs_p0, hs_p1, ho10, hs_p2⟩, Nat.lt_succ_self _⟩
 refine c_exit ?_
 refine k_then_exit ?_
 have hx := some_inj h
 subst hx
 have hy := some_inj hn12
 subst hy
 replace h := h12
 refine k_then_exit ?_
 refine k_block_in ?_
 refine k_then ?_
 refine c_norm [] trivial (fun J => ?_)
 refine c_sp ?_
 refine x_u 1 [(6, .bool true)] ?_
 refine x_ek ?_
 refine c_ret ?_
 refine r_ret (r_vals [.bool true] ⟨rfl, trivial⟩ ?_)
 have hx := some_inj h
 subst hx
 have hmr : MS wl12 [M] := hms.pick [some 1] _ rfl
 have hsu : ∀ x ∈ fl [M], x ∈ fl [blk a10, M] := pick_sub [some 1] _ rfl
 exact ⟨rfl, hev⟩
def inventory_copied_L2 (p0 : List (List Int)) (s : (List (List Int)) × Int) : Option (Step ((List (List Int)) × Int) (List (List Int))) :=
match s with
| (d4_l2, t8__s8_l2) =>
(if (decide (t8__s8_l2 < ((p0).length : Int))) = true then
((idx p0 t8__s8_l2).bind fun x6 =>
((slices_Clone_int_int_ x6).bind fun x10 =>
(if d4_l2.length + 1 ≤ 4294967296 then
some (.next ((d4_l2 ++ [x10]), IntKind.i64.wrap (t8__s8_l2 + 1)))
else none)))
else
some (.done d4_l2))

def inventory_copied (p0 : List (List Int)) : Option (List (List Int)) :=
((loop (inventory_copied_L2 p0) (([] : List (List Int)), 0)).bind fun d => match d with
| d4_x2 => some d4_x2)

theorem inventory_copied_w (a_p0 : Option Addr) (c_p0 : Nat) (p0 : List (List Int)) (r : (List (List Int))) (w : World) (M : List Nat) (hms : MS w [M]) (hs_p0 : SlR (eSl (eInt .i64)) w (fl [M]) a_p0 c_p0 p0) (h : inventory_copied p0 = some r) : CallVC Try.prog 22 [Vl a_p0 p0 c_p0] w fun v w' => ∃ (a0' : Option Addr), ∃ (c0' : Nat), ∃ (B2' : List Nat), v = Vl a0' r c0' ∧ Ev [] w w' ∧ MS w' [B2', M] ∧ FR w.heap.size [B2'] ∧ OwnR (eInt .i64) 3 22 w' B2' a0' c0' r none := by
 refine calls_vc hmx Try.func22 (by kernel_rfl) rfl (rs := [.tmp 2]) rfl (by kernel_rfl) (args := [Vl a_p0 p0 c_p0]) rfl ?_
 have hev : Ev [] w w := Ev.refl _ _
 have hfr : FR w.heap.size [] := FR.nil _
 refine c_sp ?_
 refine x_u 1 [(2, .slice none 0 0)] ?_
 refine x_ek ?_
 refine c_sp ?_
 refine x_u 1 [(3, .slice none 0 0)] ?_
 refine x_ek ?_
 refine c_seq ?_
 refine c_sp ?_
 refine x_u 1 [(6, Vl a_p0 p0 c_p0)] ?_
 refine x_len (vs := [Vl a_p0 p0 c_p0]) (Vi ((p0).length : Int)) rfl rfl rfl (reads_len tsl26 _ _ _ _ _) ?_
 refine x_u 1 [(8, Vi 0)] ?_
 refine x_ek ?_
 refine c_block ?_
 have hst := Stp.push (ls := [M]) (l := ([] : List Nat)) (Ev.refl [] w) (fun _ h => by cases h) (fun _ h => by cases h)
 replace hs_p0 := hs_p0.step hst
 replace hms := hms.push (l := ([] : List Nat)) (Ev.refl [] _) (fun _ h => by cases h)
 replace hfr := hfr.push (l := ([] : List Nat)) (fun _ h => by cases h)
 have ho3 := OwnR.nil (eInt .i64) 3 22 w ([] : List Nat)
 obtain ⟨d2, hd2, h2⟩ := bind_some h
 obtain ⟨m2, hd2⟩ := loop_some hd2
 refine c_loop (loop_rule hmx (σ := Nat × (List (List Int)) × Int × Option Addr × Nat × List Nat) (fun s => match s with | (_, d4_l2, t8__s8_l2, a4_l2, c4_l2, B4_l2) => [(3, Vl a4_l2 d4_l2 c4_l2), (6, Vl a_p0 p0 c_p0), (7, Vi ((p0).length : Int)), (8, Vi t8__s8_l2)]) (fun s w' => match s with | (m, d4_l2, t8__s8_l2, a4_l2, c4_l2, B4_l2) => loopN (inventory_copied_L2 p0) m (d4_l2, t8__s8_l2) = some d2 ∧ Ev [] w w' ∧ MS w' [B4_l2, M] ∧ FR w.heap.size [B4_l2] ∧ OwnR (eInt .i64) 3 22 w' B4_l2 a4_l2 c4_l2 d4_l2 none ∧ SlR (eSl (eInt .i64)) w' (fl [B4_l2, M]) a_p0 c_p0 p0) (fun s => s.1) (m2, ([] : List (List Int)), 0, none, 0, ([] : List Nat)) ⟨rfl, rfl, rfl, rfl, trivial⟩ ⟨hd2, hev, hms, hfr, ho3, hs_p0⟩ ?_)
 rintro ⟨m2, d4_l2, t8__s8_l2, a4_l2, c4_l2, B4_l2⟩ J wl2 ⟨hn2, hev, hms, hfr, hj4_l2, hs_p0⟩
 rcases m2 with _ | m2
 · exact (loopN_zero hn2).elim
 obtain ⟨t2, h, hn2⟩ := bind_some hn2
 refine c_sp ?_
 refine x_u 1 [(9, .bool (decide (t8__s8_l2 < ((p0).length : Int))))] ?_
 refine x_ek ?_
 refine c_norm [(3, Vl a4_l2 d4_l2 c4_l2), (6, Vl a_p0 p0 c_p0), (7, Vi ((p0).length : Int)), (8, Vi t8__s8_l2), (9, .bool (decide (t8__s8_l2 < ((p0).length : Int))))] ⟨rfl, rfl, rfl, rfl, rfl, trivial⟩ (fun J => ?_)
 refine c_seq ?_
 refine c_if (decide (t8__s8_l2 < ((p0).length : Int))) rfl h (fun h => ?_) (fun h => ?_)
 · refine c_skip ?_
   refine k_then ?_
   refine c_seq ?_
   refine c_block ?_
   refine c_sp ?_
   obtain ⟨x6, hx6, h⟩ := bind_some h
   obtain ⟨ad6, cs6, hr6, hc6, hR⟩ := reads_index (Mo := []) tsl26 hs_p0 hx6
   obtain ⟨a7, c7, rfl, hs7⟩ := hR
   refine x_indexAddr (xv := Vl a_p0 p0 c_p0) (yv := Vi t8__s8_l2) (.pointer (some ad6)) rfl rfl rfl rfl hr6 ?_
   refine x_load (xv := .pointer (some ad6)) (Vl a7 x6 c7) rfl rfl rfl (reads_cell0 tcell22 hc6 (fun _ h => by cases h)) ?_
   refine x_u 1 [(5, Vl a7 x6 c7)] ?_
   refine x_ek ?_
   refine c_plain ?_
   refine x_u 2 [(12, Vl a4_l2 d4_l2 c4_l2), (13, Vl a7 x6 c7)] ?_
   obtain ⟨x10, hx, h⟩ := bind_some h
   have hpk : MS wl2 ([] ++ [B4_l2, M]) := hms.pick [some 0, some 1] _ rfl
   have hsb0 : ∀ x ∈ fl ([] ++ [B4_l2, M]), x ∈ fl [B4_l2, M] := pick_sub [some 0, some 1] _ rfl
   have hsb : ∀ x ∈ fl ([] ++ [(fl [B4_l2, M])]), x ∈ fl [B4_l2, M] := fun x hx => hsb0 x (fl_unfold x hx)
   have hcall := slices_Clone_int_int__w a7 c7 x6 _ wl2 (fl [B4_l2, M]) (MS.fold (P := []) hpk) (hs7.sub hsb) hx
   refine x_call 32 #[] #[] [Vl a7 x6 c7] _ rfl rfl rfl rfl hcall ?_
   rintro v w11 ⟨a0_11, c0_11, rfl, he11, hmn11, hfn11, hf11_1⟩
   clear hcall hx
   refine inl1 ?_
   have hpk2 : MS wl2 ([] ++ [B4_l2, M]) := hms.pick [some 0, some 1] _ rfl
   have hsb2 : ∀ x ∈ fl ([] ++ [B4_l2, M]), x ∈ fl [B4_l2, M] := pick_sub [some 0, some 1] _ rfl
   have hst0 := Stp.call (LS := [B4_l2, M]) (res := [blk a0_11]) (par := []) (R := [B4_l2, M]) he11 (fun b hb => hsb2 b (fl_left' (P := []) b hb)) hfn11 (NP.init _ _) (fun x hx => hsb2 x (fl_right' (P := []) x hx))
   have hsn : ∀ x ∈ fl [blk a0_11, B4_l2, M], x ∈ fl ([blk a0_11] ++ ([] ++ [B4_l2, M])) := pick_sub [some 0, some 1, some 2] _ rfl
   have hst := hst0.res hsn
   replace hj4_l2 := hj4_l2.step (plain_int _) he11 (MS.outs (P := []) hpk2 0 rfl)
   replace hs_p0 := hs_p0.step hst
   replace hs7 := hs7.step hst
   replace hms : MS w11 [blk a0_11, B4_l2, M] := (MS.call (P := []) (R := [B4_l2, M]) (res := [blk a0_11]) (par := []) hpk2 he11 hmn11 hfn11 (NP.init _ _)).pick [some 0, some 1, some 2] _ rfl
   have hfr2 : FR w.heap.size [blk a0_11, B4_l2] := (FR.cons (fun b hb => Nat.le_trans hev.size (hfn11.at 0 rfl b hb)) (FR.cons (hfr.at 0 rfl) (FR.nil _)))
   replace hev := hev.ext he11
   replace hfr := hfr2
   clear hfr2
   replace hf11_1 := OwnS.plain (M' := fl [blk a0_11, B4_l2, M]) (plain_int _) hf11_1
   clear hpk hsb hsb0 hpk2 hsb2 hst0 hsn hst
   refine x_buildSlice (vs := [(0, Vl a0_11 x10 c0_11)]) #[Vl a0_11 x10 c0_11] 22 rfl rfl rfl (by kernel_rfl) (fun b13 w13 hq13 hb13 he13 hz13 => ?_)
   refine inl1 ?_
   have hms0 := hms
   have hst := Stp.ext (ls := [blk a0_11, B4_l2, M]) he13
   replace hj4_l2 := hj4_l2.step (plain_int _) he13 nn2
   replace hs_p0 := hs_p0.step hst
   replace hs7 := hs7.step hst
   replace hf11_1 := hf11_1.step hst he13 nn2
   replace hms := hms.ev he13
   replace hev := hev.ext he13
   have hs13 : SlR eHdr w13 (fl [blk a0_11, B4_l2, M]) (Ad b13 0) 1 ([(a0_11, (x10).length, c0_11)] : List (Option Addr × Nat × Nat)) := ro_of_box hms0 hq13 hb13 rfl rfl (cells_at (cs := [Vl a0_11 x10 c0_11]) (CellsOf.cons (c := [Vl a0_11 x10 c0_11]) rfl CellsOf.nil))
   clear hb13 hms0
   have hg := guard_l h
   replace h := guard_r h
   obtain ⟨a15, c15, w15, B15, hr15, he15, hez15, hn15, hR15⟩ := OwnR.app (P := Try.prog) (plain_int _) tel26 26 hj4_l2 hs13 (mem_flat 1 rfl) hf11_1 (hms.apart 0 1 rfl rfl rfl) (hms.ltat 1 rfl) hg
   refine x_builtin (vs := [Vl a4_l2 d4_l2 c4_l2, .slice (Ad b13 0) (([(a0_11, (x10).length, c0_11)] : List (Option Addr × Nat × Nat))).length 1]) _ w15 rfl rfl rfl rfl (run_value _ _ _ _ hr15) ?_
   refine inl1 ?_
   have hms2 := hms.merge (C := blk a0_11 ++ B4_l2) 0 1 rfl rfl (fun x hx => List.mem_append.1 hx)
   replace hfr : FR w.heap.size [blk a0_11 ++ B4_l2] := (FR.cons (fun b hb => (List.mem_append.1 hb).elim (hfr.at 0 rfl b) (hfr.at 1 rfl b)) (FR.nil _))
   have hsu : ∀ x ∈ fl [blk a0_11 ++ B4_l2, M], x ∈ fl [blk a0_11, B4_l2, M] := merge_sub (ls := [blk a0_11, B4_l2, M]) (C := blk a0_11 ++ B4_l2) 0 1 rfl rfl (fun x hx => List.mem_append.1 hx)
   replace hms : MS w13 [blk a0_11 ++ B4_l2, M] := hms2
   replace hs_p0 := hs_p0.sub hsu
   replace hs7 := hs7.sub hsu
   replace hs13 := hs13.sub hsu
   clear hms2 hsu
   have hst : Stp (fl [blk a0_11 ++ B4_l2, M]) w13 (fl [B15, M]) w15 := Stp.upd 0 he15 rfl (fun b hb => (hn15 b hb).1)
   replace hs_p0 := hs_p0.step hst
   replace hs7 := hs7.step hst
   replace hs13 := hs13.step hst
   replace hms : MS w15 [B15, M] := hms.upd 0 he15 rfl hn15
   have hfr2 : FR w.heap.size [B15] := hfr.upd 0 rfl hev.size (fun b hb => (hn15 b hb).1)
   replace hev := hev.then he15 (fun b hb => .inr (hfr.at 0 rfl b hb))
   replace hfr := hfr2
   clear hfr2
   replace hj4_l2 := hR15
   refine x_u 1 [(3, .slice a15 ((d4_l2 ++ [x10])).length c15)] ?_
   refine x_end rfl ?_
   refine k_block ?_
   refine k_then ?_
   refine c_plain ?_
   refine x_u 2 [(17, Vi (IntKind.i64.wrap (t8__s8_l2 + 1))), (8, Vi (IntKind.i64.wrap (t8__s8_l2 + 1)))] ?_
   refine x_end rfl ?_
   have hx := some_inj h
   subst hx
   exact k_then ⟨(m2, (d4_l2 ++ [x10]), IntKind.i64.wrap (t8__s8_l2 + 1), a15, c15, B15), ⟨rfl, rfl, rfl, rfl, trivial⟩, ⟨hn2, hev, hms, hfr, hj4_l2, hs_p0⟩, Nat.lt_succ_self _⟩
 refine c_exit ?_
 refine k_then_exit ?_
 have hx := some_inj h
 subst hx
 have hy := some_inj hn2
 subst hy
 replace h := h2
 refine k_then_exit ?_
 refine k_block_in ?_
 refine k_then ?_
 refine c_norm [(3, Vl a4_l2 d4_l2 c4_l2)] ⟨rfl, trivial⟩ (fun J => ?_)
 refine c_sp ?_
 refine x_u 2 [(18, Vl a4_l2 d4_l2 c4_l2), (2, Vl a4_l2 d4_l2 c4_l2)] ?_
 refine x_ek ?_
 refine c_ret ?_
 refine r_ret (r_vals [Vl a4_l2 d4_l2 c4_l2] ⟨rfl, trivial⟩ ?_)
 have hx := some_inj h
 subst hx
 have hmr : MS wl2 [B4_l2, M] := hms.pick [some 0, some 1] _ rfl
 have hsu : ∀ x ∈ fl [B4_l2, M], x ∈ fl [B4_l2, M] := pick_sub [some 0, some 1] _ rfl
 have hfe : FR w.heap.size [B4_l2] := hfr.pick [some 0] _ rfl
 exact ⟨a4_l2, c4_l2, B4_l2, rfl, hev, hmr, hfe, hj4_l2⟩
def inventory_Where_L2 (p0 : List (List Int)) (p1 : Int) (s : Int) : Option (Step Int ((Int × Int) ⊕ Unit)) :=
match s with
| t11__s11_l2 =>
(if (decide (t11__s11_l2 < ((p0).length : Int))) = true then
((idx p0 t11__s11_l2).bind fun x4 =>
((slices_Index_int_int_ x4 p1).bind fun x8 =>
(if (decide (x8 ≥ 0)) = true then
some (.done (.inl (t11__s11_l2, x8)))
else
some (.next (IntKind.i64.wrap (t11__s11_l2 + 1))))))
else
some (.done (.inr ())))

def inventory_Where (p0 : List (List Int)) (p1 : Int) : Option (Int × Int) :=
((loop (inventory_Where_L2 p0 p1) 0).bind fun d => match d with
| (.inl (track_s4_x200, place_s5_x200)) => some (track_s4_x200, place_s5_x200)
| (.inr _) => some ((-1), (-1)))

theorem inventory_Where_w (a_p0 : Option Addr) (c_p0 : Nat) (p0 : List (List Int)) (p1 : Int) (r : Int × Int) (w : World) (M : List Nat) (hms : MS w [M]) (hs_p0 : SlR (eSl (eInt .i64)) w (fl [M]) a_p0 c_p0 p0) (h : inventory_Where p0 p1 = some r) : CallVC Try.prog 10 [Vl a_p0 p0 c_p0, Vi p1] w fun v w' => v = .tuple #[Vi r.1, Vi r.2] ∧ Ev [] w w' := by
 refine calls_vc hmx Try.func10 (by kernel_rfl) rfl (rs := [.tmp 4, .tmp 5]) rfl (by kernel_rfl) (args := [Vl a_p0 p0 c_p0, Vi p1]) rfl ?_
 have hev : Ev [] w w := Ev.refl _ _
 have hfr : FR w.heap.size [] := FR.nil _
 refine c_sp ?_
 refine x_u 2 [(4, Vi 0), (5, Vi 0)] ?_
 refine x_ek ?_
 refine c_seq ?_
 refine c_sp ?_
 refine x_u 1 [(9, Vl a_p0 p0 c_p0)] ?_
 refine x_len (vs := [Vl a_p0 p0 c_p0]) (Vi ((p0).length : Int)) rfl rfl rfl (reads_len tsl26 _ _ _ _ _) ?_
 refine x_u 1 [(11, Vi 0)] ?_
 refine x_ek ?_
 refine c_block ?_
 obtain ⟨d2, hd2, h2⟩ := bind_some h
 obtain ⟨m2, hd2⟩ := loop_some hd2
 refine c_loop (loop_rule hmx (σ := Nat × Int) (fun s => match s with | (_, t11__s11_l2) => [(1, Vi p1), (9, Vl a_p0 p0 c_p0), (10, Vi ((p0).length : Int)), (11, Vi t11__s11_l2)]) (fun s w' => match s with | (m, t11__s11_l2) => loopN (inventory_Where_L2 p0 p1) m t11__s11_l2 = some d2 ∧ Ev [] w w' ∧ MS w' [M] ∧ FR w.heap.size [] ∧ SlR (eSl (eInt .i64)) w' (fl [M]) a_p0 c_p0 p0) (fun s => s.1) (m2, 0) ⟨rfl, rfl, rfl, rfl, trivial⟩ ⟨hd2, hev, hms, hfr, hs_p0⟩ ?_)
 rintro ⟨m2, t11__s11_l2⟩ J wl2 ⟨hn2, hev, hms, hfr, hs_p0⟩
 rcases m2 with _ | m2
 · exact (loopN_zero hn2).elim
 obtain ⟨t2, h, hn2⟩ := bind_some hn2
 refine c_sp ?_
 refine x_u 1 [(12, .bool (decide (t11__s11_l2 < ((p0).length : Int))))] ?_
 refine x_ek ?_
 refine c_norm [(1, Vi p1), (9, Vl a_p0 p0 c_p0), (10, Vi ((p0).length : Int)), (11, Vi t11__s11_l2), (12, .bool (decide (t11__s11_l2 < ((p0).length : Int))))] ⟨rfl, rfl, rfl, rfl, rfl, trivial⟩ (fun J => ?_)
 refine c_seq ?_
 refine c_if (decide (t11__s11_l2 < ((p0).length : Int))) rfl h (fun h => ?_) (fun h => ?_)
 · refine c_skip ?_
   refine k_then ?_
   refine c_seq ?_
   refine c_block ?_
   refine c_sp ?_
   refine x_u 1 [(13, Vi t11__s11_l2)] ?_
   obtain ⟨x4, hx4, h⟩ := bind_some h
   obtain ⟨ad4, cs4, hr4, hc4, hR⟩ := reads_index (Mo := []) tsl26 hs_p0 hx4
   obtain ⟨a5, c5, rfl, hs5⟩ := hR
   refine x_indexAddr (xv := Vl a_p0 p0 c_p0) (yv := Vi t11__s11_l2) (.pointer (some ad4)) rfl rfl rfl rfl hr4 ?_
   refine x_load (xv := .pointer (some ad4)) (Vl a5 x4 c5) rfl rfl rfl (reads_cell0 tcell22 hc4 (fun _ h => by cases h)) ?_
   refine x_u 2 [(6, Vi t11__s11_l2), (7, Vl a5 x4 c5)] ?_
   refine x_ek ?_
   refine c_sp ?_
   refine x_u 2 [(16, Vl a5 x4 c5), (17, Vi p1)] ?_
   obtain ⟨x8, hx, h⟩ := bind_some h
   have hpk : MS wl2 ([] ++ [M]) := hms.pick [some 0] _ rfl
   have hsb0 : ∀ x ∈ fl ([] ++ [M]), x ∈ fl [M] := pick_sub [some 0] _ rfl
   have hsb : ∀ x ∈ fl ([] ++ [(fl [M])]), x ∈ fl [M] := fun x hx => hsb0 x (fl_unfold x hx)
   have hcall := slices_Index_int_int__w a5 c5 x4 p1 _ wl2 (fl [M]) (MS.fold (P := []) hpk) (hs5.sub hsb) hx
   refine x_call 24 #[] #[] [Vl a5 x4 c5, Vi p1] _ rfl rfl rfl rfl hcall ?_
   rintro v w9 ⟨rfl, he9⟩
   clear hcall hx
   refine inl1 ?_
   have hst := Stp.ext (ls := [M]) he9
   replace hs_p0 := hs_p0.step hst
   replace hs5 := hs5.step hst
   replace hms := hms.ev he9
   replace hev := hev.ext he9
   clear hpk hsb hsb0
   refine x_u 1 [(8, Vi x8)] ?_
   refine x_ek ?_
   refine c_sp ?_
   refine x_u 2 [(19, Vi x8), (20, .bool (decide (x8 ≥ 0)))] ?_
   refine x_ek ?_
   refine c_if (decide (x8 ≥ 0)) rfl h (fun h => ?_) (fun h => ?_)
   · refine c_sp ?_
     refine x_u 4 [(21, Vi t11__s11_l2), (22, Vi x8), (4, Vi t11__s11_l2), (5, Vi x8)] ?_
     refine x_ek ?_
     refine c_norm [(4, Vi t11__s11_l2), (5, Vi x8)] ⟨rfl, rfl, trivial⟩ (fun J => ?_)
     refine c_ret ?_
     refine k_block_ret ?_
     refine k_then_ret ?_
     have hx := some_inj h
     subst hx
     have hy := some_inj hn2
     subst hy
     replace h := h2
     refine k_then_ret ?_
     refine k_block_ret ?_
     refine k_then_ret ?_
     refine r_ret (r_vals [Vi t11__s11_l2, Vi x8] ⟨rfl, rfl, trivial⟩ ?_)
     have hx := some_inj h
     subst hx
     have hmr : MS w9 [M] := hms.pick [some 0] _ rfl
     have hsu : ∀ x ∈ fl [M], x ∈ fl [M] := pick_sub [some 0] _ rfl
     exact ⟨rfl, hev⟩
   refine c_skip ?_
   refine k_block ?_
   refine k_then ?_
   refine c_plain ?_
   refine x_u 2 [(23, Vi (IntKind.i64.wrap (t11__s11_l2 + 1))), (11, Vi (IntKind.i64.wrap (t11__s11_l2 + 1)))] ?_
   refine x_end rfl ?_
   have hx := some_inj h
   subst hx
   exact k_then ⟨(m2, IntKind.i64.wrap (t11__s11_l2 + 1)), ⟨rfl, rfl, rfl, rfl, trivial⟩, ⟨hn2, hev, hms, hfr, hs_p0⟩, Nat.lt_succ_self _⟩
 refine c_exit ?_
 refine k_then_exit ?_
 have hx := some_inj h
 subst hx
 have hy := some_inj hn2
 subst hy
 replace h := h2
 refine k_then_exit ?_
 refine k_block_in ?_
 refine k_then ?_
 refine c_norm [] trivial (fun J => ?_)
 refine c_sp ?_
 refine x_u 2 [(4, Vi (-1)), (5, Vi (-1))] ?_
 refine x_ek ?_
 refine c_ret ?_
 refine r_ret (r_vals [Vi (-1), Vi (-1)] ⟨rfl, rfl, trivial⟩ ?_)
 have hx := some_inj h
 subst hx
 have hmr : MS wl2 [M] := hms.pick [some 0] _ rfl
 have hsu : ∀ x ∈ fl [M], x ∈ fl [M] := pick_sub [some 0] _ rfl
 exact ⟨rfl, hev⟩
def inventory_shift_J28 (p3_0 : Int) (p3_2 : Int) (d3_j19 : List (List Int)) (t109__s109_j28 : Bool) : Option (Int × (List (List Int))) :=
(if t109__s109_j28 = true then
((idx d3_j19 p3_2).bind fun x29 =>
(if x29.length ≤ 4294967294 then
((idx d3_j19 p3_2).bind fun x36 =>
some (0, (d3_j19.set (Int.toNat p3_2) (p3_0 :: x29))))
else none))
else
(if (decide (p3_2 ≥ 0)) = true then
((idx d3_j19 p3_2).bind fun x39 =>
(if x39.length + ([p3_0]).length ≤ 4294967296 then
((idx d3_j19 p3_2).bind fun x46 =>
some (0, (d3_j19.set (Int.toNat p3_2) (x39 ++ [p3_0]))))
else none))
else
some (0, d3_j19)))

def inventory_shift_J19 (p3_0 : Int) (p3_2 : Int) (p3_3 : Bool) (d3_j19 : List (List Int)) : Option (Int × (List (List Int))) :=
(if (decide (p3_2 ≥ 0)) = true then
inventory_shift_J28 p3_0 p3_2 d3_j19 p3_3
else
inventory_shift_J28 p3_0 p3_2 d3_j19 false)

def inventory_shift_J10 (p2 : List (List Int)) (p3_0 : Int) (p3_2 : Int) (p3_3 : Bool) (x7 : Int × Int) : Option (Int × (List (List Int))) :=
(if (decide (x7.1 ≥ 0)) = true then
((idx p2 x7.1).bind fun x20 =>
(if x20 ≠ [] ∧ 0 ≤ x7.2 ∧ x7.2 ≤ IntKind.i64.wrap (x7.2 + 1) ∧ IntKind.i64.wrap (x7.2 + 1) ≤ (x20.length : Int) then
((idx p2 x7.1).bind fun x25 =>
inventory_shift_J19 p3_0 p3_2 p3_3 (p2.set (Int.toNat x7.1) (x20.take (Int.toNat x7.2) ++ x20.drop (Int.toNat (IntKind.i64.wrap (x7.2 + 1))))))
else none))
else
inventory_shift_J19 p3_0 p3_2 p3_3 p2)

def inventory_shift_J9 (p0 : List ((List UInt8) × Int)) (p1 : List Int) (p2 : List (List Int)) (p3_0 : Int) (p3_1 : Int) (p3_2 : Int) (p3_3 : Bool) (x7 : Int × Int) : Option (Int × (List (List Int))) :=
(if (decide (p3_2 ≥ 0)) = true then
(if (p3_2 != p3_1) = true then
((idx p0 p3_2).bind fun x11 =>
((idx p2 p3_2).bind fun x13 =>
((idx p1 p3_0).bind fun x15 =>
((inventory_room x11.1 x11.2 p1 x13).bind fun x17 =>
(if (decide (x17 < x15)) = true then
some (14, p2)
else
inventory_shift_J10 p2 p3_0 p3_2 p3_3 x7)))))
else
inventory_shift_J10 p2 p3_0 p3_2 p3_3 x7)
else
inventory_shift_J10 p2 p3_0 p3_2 p3_3 x7)

def inventory_shift (p0 : List ((List UInt8) × Int)) (p1 : List Int) (p2 : List (List Int)) (p3_0 : Int) (p3_1 : Int) (p3_2 : Int) (p3_3 : Bool) : Option (Int × (List (List Int))) :=
(if (decide (p3_0 < 0)) = true then
some (2, p2)
else
(if (decide (p3_0 ≥ ((p1).length : Int))) = true then
some (2, p2)
else
(if (decide (p3_1 < (-1))) = true then
some (2, p2)
else
(if (decide (p3_1 ≥ ((p2).length : Int))) = true then
some (2, p2)
else
(if (decide (p3_2 < (-1))) = true then
some (2, p2)
else
(if (decide (p3_2 ≥ ((p2).length : Int))) = true then
some (2, p2)
else
((inventory_Where p2 p3_0).bind fun x7 =>
(if (x7.1 != p3_1) = true then
some (17, p2)
else
(if (p3_1 == (-1)) = true then
(if (p3_2 == (-1)) = true then
some (17, p2)
else
inventory_shift_J9 p0 p1 p2 p3_0 p3_1 p3_2 p3_3 x7)
else
inventory_shift_J9 p0 p1 p2 p3_0 p3_1 p3_2 p3_3 x7)))))))))

theorem inventory_shift_w (a_p0 : Option Addr) (c_p0 : Nat) (p0 : List ((List UInt8) × Int)) (a_p1 : Option Addr) (c_p1 : Nat) (p1 : List Int) (a_p2 : Option Addr) (c_p2 : Nat) (B_p2 : List Nat) (p2 : List (List Int)) (p3_0 : Int) (p3_1 : Int) (p3_2 : Int) (p3_3 : Bool) (r : Int × (List (List Int))) (w : World) (M : List Nat) (hms : MS w [B_p2, M]) (hs_p0 : SlR (eProd eStr (eInt .i64)) w (fl [B_p2, M]) a_p0 c_p0 p0) (hs_p1 : SlR (eInt .i64) w (fl [B_p2, M]) a_p1 c_p1 p1) (hs_p2 : OwnR (eInt .i64) 3 22 w B_p2 a_p2 c_p2 p2 none) (h : inventory_shift p0 p1 p2 p3_0 p3_1 p3_2 p3_3 = some r) : CallVC Try.prog 23 [.slice a_p0 (p0).length c_p0, .slice a_p1 (p1).length c_p1, .slice a_p2 (p2).length c_p2, .agg #[Vi p3_0, Vi p3_1, Vi p3_2, .bool p3_3]] w fun v w' => ∃ (B0' : List Nat), v = Vi r.1 ∧ Ev (fl [B_p2]) w w' ∧ OwnR (eInt .i64) 3 22 w' B0' a_p2 c_p2 r.2 none ∧ MS w' [B0', M] ∧ FR w.heap.size [] ∧ NP (fl [B_p2]) w.heap.size [B0'] := by
 refine calls_vc hmx Try.func23 (by kernel_rfl) rfl (rs := [.tmp 8]) rfl (by kernel_rfl) (args := [.slice a_p0 (p0).length c_p0, .slice a_p1 (p1).length c_p1, .slice a_p2 (p2).length c_p2, .agg #[Vi p3_0, Vi p3_1, Vi p3_2, .bool p3_3]]) rfl ?_
 have hev : Ev (fl [B_p2]) w w := Ev.refl _ _
 have hfr : FR w.heap.size [] := FR.nil _
 have hpr : NP (fl [B_p2]) w.heap.size [B_p2] := NP.init _ _
 refine c_sp ?_
 refine x_box (xv := .agg #[Vi p3_0, Vi p3_1, Vi p3_2, .bool p3_3]) rfl rfl rfl (fun b4 w4 hq4 hb4 he4 hz4 => ?_)
 replace hb4 : w4.heap[b4]? = some (.cells #[Vi p3_0, Vi p3_1, Vi p3_2, .bool p3_3] 30 (0, 0)) := hb4
 refine inl1 ?_
 have hst := Stp.box (ls := [B_p2, M]) he4 hq4
 replace hs_p0 := hs_p0.step hst
 replace hs_p1 := hs_p1.step hst
 replace hs_p2 := hs_p2.step (plain_int _) he4 nn2
 replace hms := hms.box he4 hq4 hb4
 replace hfr := hfr.box hev.size hq4
 replace hev := hev.ext he4
 refine x_u 1 [(8, Vi 0)] ?_
 refine x_ek ?_
 refine c_seq ?_
 refine c_sp ?_
 refine x_fieldAddr (xv := Vp b4 0) (Vp b4 0) rfl rfl rfl (reads_field tfld30_0 _ _) ?_
 refine x_load (xv := Vp b4 0) (Vi p3_0) rfl rfl rfl (reads_box tcell3 hb4 nn 0 _ rfl) ?_
 refine x_u 2 [(13, .bool (decide (p3_0 < 0))), (14, .bool (decide (p3_0 < 0)))] ?_
 refine x_if 14 (decide (p3_0 < 0)) rfl h (fun h => ?_) (fun h => ?_)
 · refine x_u 30 [(15, undef), (16, undef), (17, undef), (18, undef), (19, undef), (20, .bool true), (21, .bool true), (22, undef), (23, undef), (24, undef), (25, .bool true), (26, .bool true), (27, undef), (28, undef), (29, undef), (30, undef), (31, undef), (32, .bool true), (33, .bool true), (34, undef), (35, undef), (36, undef), (37, .bool true), (38, .bool true), (39, undef), (40, undef), (41, undef), (42, undef), (43, undef), (44, .bool true)] ?_
   refine x_ek ?_
   refine c_norm [(0, .slice a_p0 (p0).length c_p0), (1, .slice a_p1 (p1).length c_p1), (2, .slice a_p2 (p2).length c_p2), (7, Vp b4 0), (44, .bool true)] ⟨rfl, rfl, rfl, rfl, rfl, trivial⟩ (fun J => ?_)
   refine c_true rfl ?_
   refine c_sp ?_
   refine x_u 1 [(8, Vi 2)] ?_
   refine x_ek ?_
   refine c_ret ?_
   refine k_then_ret ?_
   refine r_ret (r_vals [Vi 2] ⟨rfl, trivial⟩ ?_)
   have hx := some_inj h
   subst hx
   have hmr : MS w4 [B_p2, M] := hms.pick [some 1, some 2] _ rfl
   have hsu : ∀ x ∈ fl [B_p2, M], x ∈ fl [[b4], B_p2, M] := pick_sub [some 1, some 2] _ rfl
   have hfe : FR w.heap.size [] := hfr.pick [] _ rfl
   exact ⟨B_p2, rfl, hev, hs_p2, hmr, hfe, (NP.cons (hpr.at 0 rfl) (NP.nil _ _))⟩
 refine x_fieldAddr (xv := Vp b4 0) (Vp b4 0) rfl rfl rfl (reads_field tfld30_0 _ _) ?_
 refine x_load (xv := Vp b4 0) (Vi p3_0) rfl rfl rfl (reads_box tcell3 hb4 nn 0 _ rfl) ?_
 refine x_u 1 [(17, .slice a_p1 (p1).length c_p1)] ?_
 refine x_len (vs := [.slice a_p1 (p1).length c_p1]) (Vi ((p1).length : Int)) rfl rfl rfl (reads_len tsl22 _ _ _ _ _) ?_
 refine x_u 3 [(19, .bool (decide (p3_0 ≥ ((p1).length : Int)))), (20, .bool (decide (p3_0 ≥ ((p1).length : Int)))), (21, .bool (decide (p3_0 ≥ ((p1).length : Int))))] ?_
 refine x_if 21 (decide (p3_0 ≥ ((p1).length : Int))) rfl h (fun h => ?_) (fun h => ?_)
 · refine x_u 23 [(22, undef), (23, undef), (24, undef), (25, .bool true), (26, .bool true), (27, undef), (28, undef), (29, undef), (30, undef), (31, undef), (32, .bool true), (33, .bool true), (34, undef), (35, undef), (36, undef), (37, .bool true), (38, .bool true), (39, undef), (40, undef), (41, undef), (42, undef), (43, undef), (44, .bool true)] ?_
   refine x_ek ?_
   refine c_norm [(0, .slice a_p0 (p0).length c_p0), (1, .slice a_p1 (p1).length c_p1), (2, .slice a_p2 (p2).length c_p2), (7, Vp b4 0), (44, .bool true)] ⟨rfl, rfl, rfl, rfl, rfl, trivial⟩ (fun J => ?_)
   refine c_true rfl ?_
   refine c_sp ?_
   refine x_u 1 [(8, Vi 2)] ?_
   refine x_ek ?_
   refine c_ret ?_
   refine k_then_ret ?_
   refine r_ret (r_vals [Vi 2] ⟨rfl, trivial⟩ ?_)
   have hx := some_inj h
   subst hx
   have hmr : MS w4 [B_p2, M] := hms.pick [some 1, some 2] _ rfl
   have hsu : ∀ x ∈ fl [B_p2, M], x ∈ fl [[b4], B_p2, M] := pick_sub [some 1, some 2] _ rfl
   have hfe : FR w.heap.size [] := hfr.pick [] _ rfl
   exact ⟨B_p2, rfl, hev, hs_p2, hmr, hfe, (NP.cons (hpr.at 0 rfl) (NP.nil _ _))⟩
 refine x_fieldAddr (xv := Vp b4 0) (Vp b4 1) rfl rfl rfl (reads_field tfld30_1 _ _) ?_
 refine x_load (xv := Vp b4 1) (Vi p3_1) rfl rfl rfl (reads_box tcell3 hb4 nn 1 _ rfl) ?_
 refine x_u 3 [(24, .bool (decide (p3_1 < (-1)))), (25, .bool (decide (p3_1 < (-1)))), (26, .bool (decide (p3_1 < (-1))))] ?_
 refine x_if 26 (decide (p3_1 < (-1))) rfl h (fun h => ?_) (fun h => ?_)
 · refine x_u 18 [(27, undef), (28, undef), (29, undef), (30, undef), (31, undef), (32, .bool true), (33, .bool true), (34, undef), (35, undef), (36, undef), (37, .bool true), (38, .bool true), (39, undef), (40, undef), (41, undef), (42, undef), (43, undef), (44, .bool true)] ?_
   refine x_ek ?_
   refine c_norm [(0, .slice a_p0 (p0).length c_p0), (1, .slice a_p1 (p1).length c_p1), (2, .slice a_p2 (p2).length c_p2), (7, Vp b4 0), (44, .bool true)] ⟨rfl, rfl, rfl, rfl, rfl, trivial⟩ (fun J => ?_)
   refine c_true rfl ?_
   refine c_sp ?_
   refine x_u 1 [(8, Vi 2)] ?_
   refine x_ek ?_
   refine c_ret ?_
   refine k_then_ret ?_
   refine r_ret (r_vals [Vi 2] ⟨rfl, trivial⟩ ?_)
   have hx := some_inj h
   subst hx
   have hmr : MS w4 [B_p2, M] := hms.pick [some 1, some 2] _ rfl
   have hsu : ∀ x ∈ fl [B_p2, M], x ∈ fl [[b4], B_p2, M] := pick_sub [some 1, some 2] _ rfl
   have hfe : FR w.heap.size [] := hfr.pick [] _ rfl
   exact ⟨B_p2, rfl, hev, hs_p2, hmr, hfe, (NP.cons (hpr.at 0 rfl) (NP.nil _ _))⟩
 refine x_fieldAddr (xv := Vp b4 0) (Vp b4 1) rfl rfl rfl (reads_field tfld30_1 _ _) ?_
 refine x_load (xv := Vp b4 1) (Vi p3_1) rfl rfl rfl (reads_box tcell3 hb4 nn 1 _ rfl) ?_
 refine x_u 1 [(29, .slice a_p2 (p2).length c_p2)] ?_
 refine x_len (vs := [.slice a_p2 (p2).length c_p2]) (Vi ((p2).length : Int)) rfl rfl rfl (reads_len tsl26 _ _ _ _ _) ?_
 refine x_u 3 [(31, .bool (decide (p3_1 ≥ ((p2).length : Int)))), (32, .bool (decide (p3_1 ≥ ((p2).length : Int)))), (33, .bool (decide (p3_1 ≥ ((p2).length : Int))))] ?_
 refine x_if 33 (decide (p3_1 ≥ ((p2).length : Int))) rfl h (fun h => ?_) (fun h => ?_)
 · refine x_u 11 [(34, undef), (35, undef), (36, undef), (37, .bool true), (38, .bool true), (39, undef), (40, undef), (41, undef), (42, undef), (43, undef), (44, .bool true)] ?_
   refine x_ek ?_
   refine c_norm [(0, .slice a_p0 (p0).length c_p0), (1, .slice a_p1 (p1).length c_p1), (2, .slice a_p2 (p2).length c_p2), (7, Vp b4 0), (44, .bool true)] ⟨rfl, rfl, rfl, rfl, rfl, trivial⟩ (fun J => ?_)
   refine c_true rfl ?_
   refine c_sp ?_
   refine x_u 1 [(8, Vi 2)] ?_
   refine x_ek ?_
   refine c_ret ?_
   refine k_then_ret ?_
   refine r_ret (r_vals [Vi 2] ⟨rfl, trivial⟩ ?_)
   have hx := some_inj h
   subst hx
   have hmr : MS w4 [B_p2, M] := hms.pick [some 1, some 2] _ rfl
   have hsu : ∀ x ∈ fl [B_p2, M], x ∈ fl [[b4], B_p2, M] := pick_sub [some 1, some 2] _ rfl
   have hfe : FR w.heap.size [] := hfr.pick [] _ rfl
   exact ⟨B_p2, rfl, hev, hs_p2, hmr, hfe, (NP.cons (hpr.at 0 rfl) (NP.nil _ _))⟩
 refine x_fieldAddr (xv := Vp b4 0) (Vp b4 2) rfl rfl rfl (reads_field tfld30_2 _ _) ?_
 refine x_load (xv := Vp b4 2) (Vi p3_2) rfl rfl rfl (reads_box tcell3 hb4 nn 2 _ rfl) ?_
 refine x_u 3 [(36, .bool (decide (p3_2 < (-1)))), (37, .bool (decide (p3_2 < (-1)))), (38, .bool (decide (p3_2 < (-1))))] ?_
 refine x_if 38 (decide (p3_2 < (-1))) rfl h (fun h => ?_) (fun h => ?_)
 · refine x_u 6 [(39, undef), (40, undef), (41, undef), (42, undef), (43, undef), (44, .bool true)] ?_
   refine x_ek ?_
   refine c_norm [(0, .slice a_p0 (p0).length c_p0), (1, .slice a_p1 (p1).length c_p1), (2, .slice a_p2 (p2).length c_p2), (7, Vp b4 0), (44, .bool true)] ⟨rfl, rfl, rfl, rfl, rfl, trivial⟩ (fun J => ?_)
   refine c_true rfl ?_
   refine c_sp ?_
   refine x_u 1 [(8, Vi 2)] ?_
   refine x_ek ?_
   refine c_ret ?_
   refine k_then_ret ?_
   refine r_ret (r_vals [Vi 2] ⟨rfl, trivial⟩ ?_)
   have hx := some_inj h
   subst hx
   have hmr : MS w4 [B_p2, M] := hms.pick [some 1, some 2] _ rfl
   have hsu : ∀ x ∈ fl [B_p2, M], x ∈ fl [[b4], B_p2, M] := pick_sub [some 1, some 2] _ rfl
   have hfe : FR w.heap.size [] := hfr.pick [] _ rfl
   exact ⟨B_p2, rfl, hev, hs_p2, hmr, hfe, (NP.cons (hpr.at 0 rfl) (NP.nil _ _))⟩
 refine x_fieldAddr (xv := Vp b4 0) (Vp b4 2) rfl rfl rfl (reads_field tfld30_2 _ _) ?_
 refine x_load (xv := Vp b4 2) (Vi p3_2) rfl rfl rfl (reads_box tcell3 hb4 nn 2 _ rfl) ?_
 refine x_u 1 [(41, .slice a_p2 (p2).length c_p2)] ?_
 refine x_len (vs := [.slice a_p2 (p2).length c_p2]) (Vi ((p2).length : Int)) rfl rfl rfl (reads_len tsl26 _ _ _ _ _) ?_
 refine x_u 2 [(43, .bool (decide (p3_2 ≥ ((p2).length : Int)))), (44, .bool (decide (p3_2 ≥ ((p2).length : Int))))] ?_
 refine x_ek ?_
 refine c_norm [(0, .slice a_p0 (p0).length c_p0), (1, .slice a_p1 (p1).length c_p1), (2, .slice a_p2 (p2).length c_p2), (7, Vp b4 0), (44, .bool (decide (p3_2 ≥ ((p2).length : Int))))] ⟨rfl, rfl, rfl, rfl, rfl, trivial⟩ (fun J => ?_)
 refine c_if (decide (p3_2 ≥ ((p2).length : Int))) rfl h (fun h => ?_) (fun h => ?_)
 · refine c_sp ?_
   refine x_u 1 [(8, Vi 2)] ?_
   refine x_ek ?_
   refine c_ret ?_
   refine k_then_ret ?_
   refine r_ret (r_vals [Vi 2] ⟨rfl, trivial⟩ ?_)
   have hx := some_inj h
   subst hx
   have hmr : MS w4 [B_p2, M] := hms.pick [some 1, some 2] _ rfl
   have hsu : ∀ x ∈ fl [B_p2, M], x ∈ fl [[b4], B_p2, M] := pick_sub [some 1, some 2] _ rfl
   have hfe : FR w.heap.size [] := hfr.pick [] _ rfl
   exact ⟨B_p2, rfl, hev, hs_p2, hmr, hfe, (NP.cons (hpr.at 0 rfl) (NP.nil _ _))⟩
 refine c_skip ?_
 refine k_then ?_
 refine c_sp ?_
 refine x_u 1 [(46, .slice a_p2 (p2).length c_p2)] ?_
 refine x_fieldAddr (xv := Vp b4 0) (Vp b4 0) rfl rfl rfl (reads_field tfld30_0 _ _) ?_
 refine x_load (xv := Vp b4 0) (Vi p3_0) rfl rfl rfl (reads_box tcell3 hb4 nn 0 _ rfl) ?_
 obtain ⟨x7, hx, h⟩ := bind_some h
 have hpk : MS w4 ([] ++ [[b4], M]) := hms.pick [some 0, some 2] _ rfl
 have hsb0 : ∀ x ∈ fl ([] ++ [[b4], M]), x ∈ fl [[b4], B_p2, M] := pick_sub [some 0, some 2] _ rfl
 have hsb : ∀ x ∈ fl ([] ++ [(fl [[b4], M])]), x ∈ fl [[b4], B_p2, M] := fun x hx => hsb0 x (fl_unfold x hx)
 have hcall := inventory_Where_w a_p2 c_p2 p2 p3_0 _ w4 (fl [[b4], M]) (MS.fold (P := []) hpk) (OwnR.ro (plain_int _) hs_p2 (fun b hb hb2 => pick_out hms 1 rfl [some 0, some 2] ([] ++ [[b4], M]) rfl rfl b hb (fl_unfold b hb2))) hx
 refine x_call 10 #[] #[] [.slice a_p2 (p2).length c_p2, Vi p3_0] _ rfl rfl rfl rfl hcall ?_
 rintro v w8 ⟨rfl, he8⟩
 clear hcall hx
 refine inl1 ?_
 have hst := Stp.ext (ls := [[b4], B_p2, M]) he8
 replace hs_p0 := hs_p0.step hst
 replace hs_p1 := hs_p1.step hst
 replace hs_p2 := hs_p2.step (plain_int _) he8 nn2
 replace hb4 := he8.box hb4 nn
 replace hms := hms.ev he8
 replace hev := hev.ext he8
 clear hpk hsb hsb0
 refine x_u 5 [(45, .tuple #[Vi x7.1, Vi x7.2]), (50, Vi x7.1), (51, Vi x7.2), (9, Vi x7.1), (10, Vi x7.2)] ?_
 refine x_ek ?_
 refine c_join (σ := Unit) (fun s => match s with | _ => [(0, .slice a_p0 (p0).length c_p0), (1, .slice a_p1 (p1).length c_p1), (2, .slice a_p2 (p2).length c_p2), (7, Vp b4 0), (9, Vi x7.1), (10, Vi x7.2)]) (fun s w' => match s with | _ => inventory_shift_J9 p0 p1 p2 p3_0 p3_1 p3_2 p3_3 x7 = some r ∧ Ev (fl [B_p2]) w w' ∧ MS w' [[b4], B_p2, M] ∧ FR w.heap.size [[b4]] ∧ NP (fl [B_p2]) w.heap.size [B_p2] ∧ OwnR (eInt .i64) 3 22 w' B_p2 a_p2 c_p2 p2 none ∧ SlR (eProd eStr (eInt .i64)) w' (fl [[b4], B_p2, M]) a_p0 c_p0 p0 ∧ SlR (eInt .i64) w' (fl [[b4], B_p2, M]) a_p1 c_p1 p1 ∧ w'.heap[b4]? = some (.cells #[Vi p3_0, Vi p3_1, Vi p3_2, .bool p3_3] 30 (0, 0))) ?_ ?_
 · refine c_sp ?_
   refine x_u 1 [(52, Vi x7.1)] ?_
   refine x_fieldAddr (xv := Vp b4 0) (Vp b4 1) rfl rfl rfl (reads_field tfld30_1 _ _) ?_
   refine x_load (xv := Vp b4 1) (Vi p3_1) rfl rfl rfl (reads_box tcell3 hb4 nn 1 _ rfl) ?_
   refine x_u 2 [(55, .bool (x7.1 != p3_1)), (56, .bool (x7.1 != p3_1))] ?_
   refine x_if 56 (x7.1 != p3_1) rfl h (fun h => ?_) (fun h => ?_)
   · refine x_u 9 [(57, undef), (58, undef), (59, undef), (60, undef), (61, undef), (62, undef), (63, undef), (64, undef), (65, .bool true)] ?_
     refine x_ek ?_
     refine c_norm [(0, .slice a_p0 (p0).length c_p0), (1, .slice a_p1 (p1).length c_p1), (2, .slice a_p2 (p2).length c_p2), (7, Vp b4 0), (9, Vi x7.1), (10, Vi x7.2), (65, .bool true)] ⟨rfl, rfl, rfl, rfl, rfl, rfl, rfl, trivial⟩ (fun J => ?_)
     refine c_true rfl ?_
     refine c_sp ?_
     refine x_u 1 [(8, Vi 17)] ?_
     refine x_ek ?_
     refine c_ret ?_
     refine k_then_ret ?_
     refine r_ret (r_vals [Vi 17] ⟨rfl, trivial⟩ ?_)
     have hx := some_inj h
     subst hx
     have hmr : MS w8 [B_p2, M] := hms.pick [some 1, some 2] _ rfl
     have hsu : ∀ x ∈ fl [B_p2, M], x ∈ fl [[b4], B_p2, M] := pick_sub [some 1, some 2] _ rfl
     have hfe : FR w.heap.size [] := hfr.pick [] _ rfl
     exact ⟨B_p2, rfl, hev, hs_p2, hmr, hfe, (NP.cons (hpr.at 0 rfl) (NP.nil _ _))⟩
   refine x_fieldAddr (xv := Vp b4 0) (Vp b4 1) rfl rfl rfl (reads_field tfld30_1 _ _) ?_
   refine x_load (xv := Vp b4 1) (Vi p3_1) rfl rfl rfl (reads_box tcell3 hb4 nn 1 _ rfl) ?_
   refine x_u 2 [(59, .bool (p3_1 == (-1))), (60, .bool (p3_1 == (-1)))] ?_
   refine x_if 60 (p3_1 == (-1)) rfl h (fun h => ?_) (fun h => ?_)
   · refine x_fieldAddr (xv := Vp b4 0) (Vp b4 2) rfl rfl rfl (reads_field tfld30_2 _ _) ?_
     refine x_load (xv := Vp b4 2) (Vi p3_2) rfl rfl rfl (reads_box tcell3 hb4 nn 2 _ rfl) ?_
     refine x_u 3 [(63, .bool (p3_2 == (-1))), (64, .bool (p3_2 == (-1))), (65, .bool (p3_2 == (-1)))] ?_
     refine x_ek ?_
     refine c_norm [(0, .slice a_p0 (p0).length c_p0), (1, .slice a_p1 (p1).length c_p1), (2, .slice a_p2 (p2).length c_p2), (7, Vp b4 0), (9, Vi x7.1), (10, Vi x7.2), (65, .bool (p3_2 == (-1)))] ⟨rfl, rfl, rfl, rfl, rfl, rfl, rfl, trivial⟩ (fun J => ?_)
     refine c_if (p3_2 == (-1)) rfl h (fun h => ?_) (fun h => ?_)
     · refine c_sp ?_
       refine x_u 1 [(8, Vi 17)] ?_
       refine x_ek ?_
       refine c_ret ?_
       refine k_then_ret ?_
       refine r_ret (r_vals [Vi 17] ⟨rfl, trivial⟩ ?_)
       have hx := some_inj h
       subst hx
       have hmr : MS w8 [B_p2, M] := hms.pick [some 1, some 2] _ rfl
       have hsu : ∀ x ∈ fl [B_p2, M], x ∈ fl [[b4], B_p2, M] := pick_sub [some 1, some 2] _ rfl
       have hfe : FR w.heap.size [] := hfr.pick [] _ rfl
       exact ⟨B_p2, rfl, hev, hs_p2, hmr, hfe, (NP.cons (hpr.at 0 rfl) (NP.nil _ _))⟩
     refine c_skip ?_
     exact k_then ⟨(), ⟨rfl, rfl, rfl, rfl, rfl, rfl, trivial⟩, h, hev, hms, hfr, hpr, hs_p2, hs_p0, hs_p1, hb4⟩
   refine x_u 5 [(61, undef), (62, undef), (63, undef), (64, .bool false), (65, .bool false)] ?_
   refine x_ek ?_
   refine c_norm [(0, .slice a_p0 (p0).length c_p0), (1, .slice a_p1 (p1).length c_p1), (2, .slice a_p2 (p2).length c_p2), (7, Vp b4 0), (9, Vi x7.1), (10, Vi x7.2), (65, .bool false)] ⟨rfl, rfl, rfl, rfl, rfl, rfl, rfl, trivial⟩ (fun J => ?_)
   refine c_false rfl ?_
   refine c_skip ?_
   exact k_then ⟨(), ⟨rfl, rfl, rfl, rfl, rfl, rfl, trivial⟩, h, hev, hms, hfr, hpr, hs_p2, hs_p0, hs_p1, hb4⟩
 rintro _ J wj9 ⟨h, hev, hms, hfr, hpr, hs_p2, hs_p0, hs_p1, hb4⟩
 refine c_join (σ := Unit) (fun s => match s with | _ => [(2, .slice a_p2 (p2).length c_p2), (7, Vp b4 0), (9, Vi x7.1), (10, Vi x7.2)]) (fun s w' => match s with | _ => inventory_shift_J10 p2 p3_0 p3_2 p3_3 x7 = some r ∧ Ev (fl [B_p2]) w w' ∧ MS w' [[b4], B_p2, M] ∧ FR w.heap.size [[b4]] ∧ NP (fl [B_p2]) w.heap.size [B_p2] ∧ OwnR (eInt .i64) 3 22 w' B_p2 a_p2 c_p2 p2 none ∧ w'.heap[b4]? = some (.cells #[Vi p3_0, Vi p3_1, Vi p3_2, .bool p3_3] 30 (0, 0))) ?_ ?_
 · refine c_seq ?_
   refine c_drawn [] [(0, false), (1, false), (2, false), (3, false), (4, false), (5, false), (6, false), (7, false), (8, false), (9, false), (10, false), (11, false), (12, false), (13, false), (14, false), (15, false), (16, false), (17, false), (18, false), (19, false), (20, false), (21, false), (23, false), (24, false), (25, false), (26, false), (27, false), (22, false), (28, false), (29, false)] _ (by kernel_rfl) rfl ?_
   have hst := Stp.ext (ls := [[b4], B_p2, M]) (Ev.drew wj9)
   replace hs_p2 := hs_p2.step (plain_int _) (Ev.drew wj9) nn2
   replace hs_p0 := hs_p0.step hst
   replace hs_p1 := hs_p1.step hst
   replace hb4 := (Ev.drew wj9).box hb4 nn
   replace hms := hms.ev (Ev.drew wj9)
   replace hev := hev.ext (Ev.drew wj9)
   refine x_fieldAddr (xv := Vp b4 0) (Vp b4 2) rfl rfl rfl (reads_field tfld30_2 _ _) ?_
   refine x_load (xv := Vp b4 2) (Vi p3_2) rfl rfl rfl (reads_box tcell3 hb4 nn 2 _ rfl) ?_
   refine x_u 2 [(68, .bool (decide (p3_2 ≥ 0))), (69, .bool (decide (p3_2 ≥ 0)))] ?_
   refine x_if 69 (decide (p3_2 ≥ 0)) rfl h (fun h => ?_) (fun h => ?_)
   · refine x_fieldAddr (xv := Vp b4 0) (Vp b4 2) rfl rfl rfl (reads_field tfld30_2 _ _) ?_
     refine x_load (xv := Vp b4 2) (Vi p3_2) rfl rfl rfl (reads_box tcell3 hb4 nn 2 _ rfl) ?_
     refine x_fieldAddr (xv := Vp b4 0) (Vp b4 1) rfl rfl rfl (reads_field tfld30_1 _ _) ?_
     refine x_load (xv := Vp b4 1) (Vi p3_1) rfl rfl rfl (reads_box tcell3 hb4 nn 1 _ rfl) ?_
     refine x_u 3 [(74, .bool (p3_2 != p3_1)), (75, .bool (p3_2 != p3_1)), (76, .bool (p3_2 != p3_1))] ?_
     refine x_if 76 (p3_2 != p3_1) rfl h (fun h => ?_) (fun h => ?_)
     · refine x_u 1 [(77, .slice a_p0 (p0).length c_p0)] ?_
       refine x_fieldAddr (xv := Vp b4 0) (Vp b4 2) rfl rfl rfl (reads_field tfld30_2 _ _) ?_
       refine x_load (xv := Vp b4 2) (Vi p3_2) rfl rfl rfl (reads_box tcell3 hb4 nn 2 _ rfl) ?_
       obtain ⟨x11, hx11, h⟩ := bind_some h
       obtain ⟨ad11, cs11, hr11, hc11, hR⟩ := reads_index (Mo := []) tsl25 hs_p0 hx11
       obtain ⟨_, _, rfl, rfl, rfl⟩ := hR
       refine x_indexAddr (xv := .slice a_p0 (p0).length c_p0) (yv := Vi p3_2) (.pointer (some ad11)) rfl rfl rfl rfl hr11 ?_
       refine x_load (xv := .pointer (some ad11)) (.agg #[Vs x11.1, Vi x11.2]) rfl rfl rfl (reads_agg tagg45 hc11 (fun _ h => by cases h)) ?_
       refine x_u 2 [(82, .slice a_p1 (p1).length c_p1), (83, .slice a_p2 (p2).length c_p2)] ?_
       refine x_fieldAddr (xv := Vp b4 0) (Vp b4 2) rfl rfl rfl (reads_field tfld30_2 _ _) ?_
       refine x_load (xv := Vp b4 2) (Vi p3_2) rfl rfl rfl (reads_box tcell3 hb4 nn 2 _ rfl) ?_
       obtain ⟨x13, hx13, h⟩ := bind_some h
       obtain ⟨g13, ai13, ci13, hr13, hv13⟩ := OwnR.view (P := Try.prog) (Mo := []) tsl26 hs_p2 hx13
       refine x_indexAddr (xv := .slice a_p2 (p2).length c_p2) (yv := Vi p3_2) (.pointer (some ⟨g13, (Int.toNat p3_2), none⟩)) rfl rfl rfl rfl hr13 ?_
       refine x_load (xv := .pointer (some ⟨g13, (Int.toNat p3_2), none⟩)) (.slice ai13 (x13).length ci13) rfl rfl rfl (RView.load tcell22 hv13) ?_
       refine x_u 1 [(89, .slice a_p1 (p1).length c_p1)] ?_
       refine x_fieldAddr (xv := Vp b4 0) (Vp b4 0) rfl rfl rfl (reads_field tfld30_0 _ _) ?_
       refine x_load (xv := Vp b4 0) (Vi p3_0) rfl rfl rfl (reads_box tcell3 hb4 nn 0 _ rfl) ?_
       obtain ⟨x15, hx15, h⟩ := bind_some h
       obtain ⟨ad15, cs15, hr15, hc15, hR⟩ := reads_index (Mo := []) tsl22 hs_p1 hx15
       obtain rfl := hR
       refine x_indexAddr (xv := .slice a_p1 (p1).length c_p1) (yv := Vi p3_0) (.pointer (some ad15)) rfl rfl rfl rfl hr15 ?_
       refine x_load (xv := .pointer (some ad15)) (Vi x15) rfl rfl rfl (reads_cell0 tcell3 hc15 (fun _ h => by cases h)) ?_
       obtain ⟨x17, hx, h⟩ := bind_some h
       have hpk : MS (wj9).drew ([] ++ [[b4], M]) := hms.pick [some 0, some 2] _ rfl
       have hsb0 : ∀ x ∈ fl ([] ++ [[b4], M]), x ∈ fl [[b4], B_p2, M] := pick_sub [some 0, some 2] _ rfl
       have hsb : ∀ x ∈ fl ([] ++ [(fl [[b4], M])]), x ∈ fl [[b4], B_p2, M] := fun x hx => hsb0 x (fl_unfold x hx)
       have hcall := inventory_room_w x11.1 x11.2 a_p1 c_p1 p1 ai13 ci13 x13 _ (wj9).drew (fl [[b4], M]) (MS.fold (P := []) hpk) (hs_p1.sub hsb) (RView.ro (plain_int _) hv13 (fun b hb hb2 => pick_out hms 1 rfl [some 0, some 2] ([] ++ [[b4], M]) rfl rfl b hb (fl_unfold b hb2))) hx
       refine x_call 25 #[] #[] [.agg #[Vs x11.1, Vi x11.2], .slice a_p1 (p1).length c_p1, .slice ai13 (x13).length ci13] _ rfl rfl rfl rfl hcall ?_
       rintro v w18 ⟨rfl, he18⟩
       clear hcall hx
       refine ⟨.inr he18, ?_⟩
       have hst := Stp.ext (ls := [[b4], B_p2, M]) he18
       replace hs_p2 := hs_p2.step (plain_int _) he18 nn2
       replace hs_p0 := hs_p0.step hst
       replace hs_p1 := hs_p1.step hst
       replace hb4 := he18.box hb4 nn
       replace hc11 := hc11.step hst
       replace hv13 := hv13.step (plain_int _) he18 nn2
       replace hc15 := hc15.step hst
       replace hms := hms.ev he18
       replace hev := hev.ext he18
       clear hpk hsb hsb0
       refine x_u 2 [(94, .bool (decide (x17 < x15))), (95, .bool (decide (x17 < x15)))] ?_
       refine x_ek ?_
       refine c_norm [(2, .slice a_p2 (p2).length c_p2), (7, Vp b4 0), (9, Vi x7.1), (10, Vi x7.2), (95, .bool (decide (x17 < x15)))] ⟨rfl, rfl, rfl, rfl, rfl, trivial⟩ (fun J => ?_)
       refine c_if (decide (x17 < x15)) rfl h (fun h => ?_) (fun h => ?_)
       · refine c_sp ?_
         refine x_u 1 [(8, Vi 14)] ?_
         refine x_ek ?_
         refine c_ret ?_
         refine k_then_ret ?_
         refine r_ret (r_vals [Vi 14] ⟨rfl, trivial⟩ ?_)
         have hx := some_inj h
         subst hx
         have hmr : MS w18 [B_p2, M] := hms.pick [some 1, some 2] _ rfl
         have hsu : ∀ x ∈ fl [B_p2, M], x ∈ fl [[b4], B_p2, M] := pick_sub [some 1, some 2] _ rfl
         have hfe : FR w.heap.size [] := hfr.pick [] _ rfl
         exact ⟨B_p2, rfl, hev, hs_p2, hmr, hfe, (NP.cons (hpr.at 0 rfl) (NP.nil _ _))⟩
       refine c_skip ?_
       exact k_then ⟨(), ⟨rfl, rfl, rfl, rfl, trivial⟩, h, hev, hms, hfr, hpr, hs_p2, hb4⟩
     refine x_u 19 [(77, undef), (78, undef), (79, undef), (80, undef), (81, undef), (82, undef), (83, undef), (84, undef), (85, undef), (86, undef), (87, undef), (89, undef), (90, undef), (91, undef), (92, undef), (93, undef), (88, undef), (94, undef), (95, .bool false)] ?_
     refine x_ek ?_
     refine c_norm [(2, .slice a_p2 (p2).length c_p2), (7, Vp b4 0), (9, Vi x7.1), (10, Vi x7.2), (95, .bool false)] ⟨rfl, rfl, rfl, rfl, rfl, trivial⟩ (fun J => ?_)
     refine c_false rfl ?_
     refine c_skip ?_
     exact k_then ⟨(), ⟨rfl, rfl, rfl, rfl, trivial⟩, h, hev, hms, hfr, hpr, hs_p2, hb4⟩
   refine x_u 26 [(70, undef), (71, undef), (72, undef), (73, undef), (74, undef), (75, .bool false), (76, .bool false), (77, undef), (78, undef), (79, undef), (80, undef), (81, undef), (82, undef), (83, undef), (84, undef), (85, undef), (86, undef), (87, undef), (89, undef), (90, undef), (91, undef), (92, undef), (93, undef), (88, undef), (94, undef), (95, .bool false)] ?_
   refine x_ek ?_
   refine c_norm [(2, .slice a_p2 (p2).length c_p2), (7, Vp b4 0), (9, Vi x7.1), (10, Vi x7.2), (95, .bool false)] ⟨rfl, rfl, rfl, rfl, rfl, trivial⟩ (fun J => ?_)
   refine c_false rfl ?_
   refine c_skip ?_
   exact k_then ⟨(), ⟨rfl, rfl, rfl, rfl, trivial⟩, h, hev, hms, hfr, hpr, hs_p2, hb4⟩
 rintro _ J wj10 ⟨h, hev, hms, hfr, hpr, hs_p2, hb4⟩
 refine c_join (σ := (List (List Int)) × List Nat) (fun s => match s with | (d3_j19, B3_j19) => [(2, .slice a_p2 (d3_j19).length c_p2), (7, Vp b4 0)]) (fun s w' => match s with | (d3_j19, B3_j19) => inventory_shift_J19 p3_0 p3_2 p3_3 d3_j19 = some r ∧ Ev (fl [B_p2]) w w' ∧ MS w' [[b4], B3_j19, M] ∧ FR w.heap.size [[b4]] ∧ NP (fl [B_p2]) w.heap.size [B3_j19] ∧ OwnR (eInt .i64) 3 22 w' B3_j19 a_p2 c_p2 d3_j19 none ∧ w'.heap[b4]? = some (.cells #[Vi p3_0, Vi p3_1, Vi p3_2, .bool p3_3] 30 (0, 0))) ?_ ?_
 · refine c_sp ?_
   refine x_u 2 [(96, Vi x7.1), (97, .bool (decide (x7.1 ≥ 0)))] ?_
   refine x_ek ?_
   refine c_norm [(2, .slice a_p2 (p2).length c_p2), (7, Vp b4 0), (9, Vi x7.1), (10, Vi x7.2), (97, .bool (decide (x7.1 ≥ 0)))] ⟨rfl, rfl, rfl, rfl, rfl, trivial⟩ (fun J => ?_)
   refine c_if (decide (x7.1 ≥ 0)) rfl h (fun h => ?_) (fun h => ?_)
   · refine c_plain ?_
     refine x_u 4 [(98, .slice a_p2 (p2).length c_p2), (99, Vi x7.1), (100, .slice a_p2 (p2).length c_p2), (101, Vi x7.1)] ?_
     obtain ⟨x20, hx20, h⟩ := bind_some h
     obtain ⟨g20, ai20, ci20, hr20, hv20⟩ := OwnR.view (P := Try.prog) (Mo := []) tsl26 hs_p2 hx20
     refine x_indexAddr (xv := .slice a_p2 (p2).length c_p2) (yv := Vi x7.1) (.pointer (some ⟨g20, (Int.toNat x7.1), none⟩)) rfl rfl rfl rfl hr20 ?_
     refine x_load (xv := .pointer (some ⟨g20, (Int.toNat x7.1), none⟩)) (.slice ai20 (x20).length ci20) rfl rfl rfl (RView.load tcell22 hv20) ?_
     refine x_u 3 [(104, Vi x7.2), (105, Vi x7.2), (106, Vi (IntKind.i64.wrap (x7.2 + 1)))] ?_
     obtain ⟨B22, hR22, ho22, hs1, hs2, hs3⟩ := OwnR.opn hs_p2 hv20
     replace hs_p2 := hR22
     have hms2 := hms.split 1 rfl hs2 hs1 hs3
     have hsu : ∀ x ∈ fl [[b4], blk ai20, B22, M], x ∈ fl [[b4], B_p2, M] := fun x hx => split_sub (ls := [[b4], B_p2, M]) 1 rfl hs2 hs1 x (pick_sub [some 1, some 0, some 2, some 3] _ rfl x hx)
     replace hms : MS wj10 [[b4], blk ai20, B22, M] := hms2.pick [some 1, some 0, some 2, some 3] _ rfl
     replace hpr : NP (fl [B_p2]) w.heap.size [blk ai20, B22] := (NP.cons (fun b hb => hpr.at 0 rfl b (hs2 b hb)) (NP.cons (fun b hb => hpr.at 0 rfl b (hs1 b hb)) (NP.nil _ _)))
     replace ho22 := OwnS.plain (M' := fl [[b4], blk ai20, B22, M]) (plain_int _) ho22
     have hg22 := hv20.eq
     have hx22 := hv20.at_
     clear hv20 hms2 hs1 hs2 hs3 hsu
     have hg := guard_l h
     replace h := guard_r h
     have hcall := delI_w (P := Try.prog) Ldelete (f := 33) rfl ⟨_, Try.func33, by kernel_rfl, rfl⟩ (T := 3) ho22 hg
     refine x_call 33 #[] #[] [.slice ai20 (x20).length ci20, Vi x7.2, Vi (IntKind.i64.wrap (x7.2 + 1))] _ rfl rfl rfl rfl hcall ?_
     rintro v w24 ⟨rfl, he24, hw24⟩
     clear hcall
     refine inl1 ?_
     replace hs_p2 := hs_p2.step (plain_int _) he24 (hms.apart 2 1 rfl rfl rfl)
     replace hb4 := he24.box hb4 (hms.apart 0 1 rfl rfl rfl _ mem1)
     replace hms := hms.ev he24
     replace hev := hev.then he24 (hpr.at 0 rfl)
     replace ho22 := hw24 (fl [[b4], blk ai20, B22, M])
     obtain ⟨x25, hx25, h⟩ := bind_some h
     obtain ⟨g25, hg25, hr25, hy25⟩ := OwnR.addr (P := Try.prog) (Mo := []) tsl26 hs_p2 hx25
     refine x_indexAddr (xv := .slice a_p2 (p2).length c_p2) (yv := Vi x7.1) (.pointer (some ⟨g25, (Int.toNat x7.1), none⟩)) rfl rfl rfl rfl hr25 ?_
     obtain ⟨w27, B27, hr27, he27, hn27, hR27⟩ := OwnR.cls (P := Try.prog) (plain_int _) tcell22 hs_p2 hg25 hy25 ho22 (hms.apart 1 2 rfl rfl rfl) (hms.ltat 2 rfl)
     refine x_store w27 (xv := .pointer (some ⟨g25, (Int.toNat x7.1), none⟩)) (yv := .slice ai20 ((x20.take (Int.toNat x7.2) ++ x20.drop (Int.toNat (IntKind.i64.wrap (x7.2 + 1))))).length ci20) rfl rfl rfl rfl hr27 ?_
     refine inl1 ?_
     have hms2 := hms.merge (C := blk ai20 ++ B22) 1 2 rfl rfl (fun x hx => List.mem_append.1 hx)
     replace hpr : NP (fl [B_p2]) w.heap.size [blk ai20 ++ B22] := (NP.cons (fun b hb => (List.mem_append.1 hb).elim (fun h => hpr.at 0 rfl b h) (hpr.at 1 rfl b)) (NP.nil _ _))
     have hsu : ∀ x ∈ fl [[b4], blk ai20 ++ B22, M], x ∈ fl [[b4], blk ai20, B22, M] := merge_sub (ls := [[b4], blk ai20, B22, M]) (C := blk ai20 ++ B22) 1 2 rfl rfl (fun x hx => List.mem_append.1 hx)
     replace hms : MS w24 [[b4], blk ai20 ++ B22, M] := hms2
     clear hms2 hsu
     have hst : Stp (fl [[b4], blk ai20 ++ B22, M]) w24 (fl [[b4], B27, M]) w27 := Stp.upd 1 he27 rfl (fun b hb => (hn27 b hb).1)
     replace hb4 := he27.box hb4 (hms.apart 0 1 rfl rfl rfl _ mem1)
     replace hms : MS w27 [[b4], B27, M] := hms.upd 1 he27 rfl hn27
     have hpr2 : NP (fl [B_p2]) w.heap.size [B27] := (NP.cons (fun b hb => (hn27 b hb).1.elim (fun h => hpr.at 0 rfl b h) (fun h => .inr (Nat.le_trans hev.size h))) (NP.nil _ _))
     replace hev := hev.then he27 (hpr.at 0 rfl)
     replace hpr := hpr2
     clear hpr2
     replace hs_p2 := hR27
     have hsl : (Value.slice a_p2 (p2).length c_p2) = (Value.slice a_p2 ((p2.set (Int.toNat x7.1) (x20.take (Int.toNat x7.2) ++ x20.drop (Int.toNat (IntKind.i64.wrap (x7.2 + 1)))))).length c_p2) := by first | (rw [List.length_set]; done) | simp only [List.length_set]
     try rw [hsl]
     clear hsl
     refine x_end rfl ?_
     exact k_then ⟨((p2.set (Int.toNat x7.1) (x20.take (Int.toNat x7.2) ++ x20.drop (Int.toNat (IntKind.i64.wrap (x7.2 + 1))))), B27), ⟨rfl, rfl, trivial⟩, h, hev, hms, hfr, hpr, hs_p2, hb4⟩
   refine c_skip ?_
   exact k_then ⟨(p2, B_p2), ⟨rfl, rfl, trivial⟩, h, hev, hms, hfr, hpr, hs_p2, hb4⟩
 rintro ⟨d3_j19, B3_j19⟩ J wj19 ⟨h, hev, hms, hfr, hpr, hs_p2, hb4⟩
 refine c_seq ?_
 refine c_block ?_
 refine c_join (σ := Bool) (fun s => match s with | t109__s109_j28 => [(2, .slice a_p2 (d3_j19).length c_p2), (7, Vp b4 0), (109, .bool t109__s109_j28)]) (fun s w' => match s with | t109__s109_j28 => inventory_shift_J28 p3_0 p3_2 d3_j19 t109__s109_j28 = some r ∧ Ev (fl [B_p2]) w w' ∧ MS w' [[b4], B3_j19, M] ∧ FR w.heap.size [[b4]] ∧ NP (fl [B_p2]) w.heap.size [B3_j19] ∧ OwnR (eInt .i64) 3 22 w' B3_j19 a_p2 c_p2 d3_j19 none ∧ w'.heap[b4]? = some (.cells #[Vi p3_0, Vi p3_1, Vi p3_2, .bool p3_3] 30 (0, 0))) ?_ ?_
 · refine c_plain ?_
   refine x_fieldAddr (xv := Vp b4 0) (Vp b4 2) rfl rfl rfl (reads_field tfld30_2 _ _) ?_
   refine x_load (xv := Vp b4 2) (Vi p3_2) rfl rfl rfl (reads_box tcell3 hb4 nn 2 _ rfl) ?_
   refine x_u 2 [(112, .bool (decide (p3_2 ≥ 0))), (113, .bool (decide (p3_2 ≥ 0)))] ?_
   refine x_if 113 (decide (p3_2 ≥ 0)) rfl h (fun h => ?_) (fun h => ?_)
   · refine x_fieldAddr (xv := Vp b4 0) (Vp b4 3) rfl rfl rfl (reads_field tfld30_3 _ _) ?_
     refine x_load (xv := Vp b4 3) (.bool p3_3) rfl rfl rfl (reads_box tcell4 hb4 nn 3 _ rfl) ?_
     refine x_u 2 [(116, .bool p3_3), (109, .bool p3_3)] ?_
     refine x_end rfl ?_
     exact k_then ⟨p3_3, ⟨rfl, rfl, rfl, trivial⟩, h, hev, hms, hfr, hpr, hs_p2, hb4⟩
   refine x_u 4 [(114, undef), (115, undef), (116, .bool false), (109, .bool false)] ?_
   refine x_end rfl ?_
   exact k_then ⟨false, ⟨rfl, rfl, rfl, trivial⟩, h, hev, hms, hfr, hpr, hs_p2, hb4⟩
 rintro t109__s109_j28 J wj28 ⟨h, hev, hms, hfr, hpr, hs_p2, hb4⟩
 refine c_if t109__s109_j28 rfl h (fun h => ?_) (fun h => ?_)
 · refine c_drawn (innr a_p2 B3_j19) [(0, false), (1, false), (2, false), (3, false), (4, false), (5, false), (6, false), (7, false), (8, true), (9, true), (10, false), (11, false), (12, true), (13, true)] _ (by kernel_rfl) rfl ?_
   replace hs_p2 := hs_p2.step (plain_int _) (Ev.drew wj28) nn2
   replace hb4 := (Ev.drew wj28).box hb4 nn
   replace hms := hms.ev (Ev.drew wj28)
   replace hev := hev.ext (Ev.drew wj28)
   refine x_u 1 [(117, .slice a_p2 (d3_j19).length c_p2)] ?_
   refine x_fieldAddr (xv := Vp b4 0) (Vp b4 2) rfl rfl rfl (reads_field tfld30_2 _ _) ?_
   refine x_load (xv := Vp b4 2) (Vi p3_2) rfl rfl rfl (reads_box tcell3 hb4 ((fun x hx h => hms.apart 0 1 rfl rfl rfl x hx (innr_sub _ h)) _ mem1) 2 _ rfl) ?_
   refine x_u 1 [(120, .slice a_p2 (d3_j19).length c_p2)] ?_
   refine x_fieldAddr (xv := Vp b4 0) (Vp b4 2) rfl rfl rfl (reads_field tfld30_2 _ _) ?_
   refine x_load (xv := Vp b4 2) (Vi p3_2) rfl rfl rfl (reads_box tcell3 hb4 ((fun x hx h => hms.apart 0 1 rfl rfl rfl x hx (innr_sub _ h)) _ mem1) 2 _ rfl) ?_
   obtain ⟨x29, hx29, h⟩ := bind_some h
   obtain ⟨g29, ai29, ci29, hr29, hv29⟩ := OwnR.view (P := Try.prog) (Mo := (innr a_p2 B3_j19)) tsl26 hs_p2 hx29
   refine x_indexAddr (xv := .slice a_p2 (d3_j19).length c_p2) (yv := Vi p3_2) (.pointer (some ⟨g29, (Int.toNat p3_2), none⟩)) rfl rfl rfl rfl hr29 ?_
   refine x_load (xv := .pointer (some ⟨g29, (Int.toNat p3_2), none⟩)) (.slice ai29 (x29).length ci29) rfl rfl rfl (RView.loadI tcell22 hv29) ?_
   refine x_fieldAddr (xv := Vp b4 0) (Vp b4 0) rfl rfl rfl (reads_field tfld30_0 _ _) ?_
   refine x_load (xv := Vp b4 0) (Vi p3_0) rfl rfl rfl (reads_box tcell3 hb4 nn 0 _ rfl) ?_
   refine x_buildSlice (vs := [(0, Vi p3_0)]) #[Vi p3_0] 3 rfl rfl rfl (by kernel_rfl) (fun b31 w31 hq31 hb31 he31 hz31 => ?_)
   refine ⟨.inr (he31.nil), ?_⟩
   obtain ⟨a31, ea31⟩ : ∃ a, a = some (⟨b31, 0, none⟩ : Addr) := ⟨_, rfl⟩
   have hw31 : ∀ M, OwnS (eInt .i64) 3 w31 M a31 1 ([p3_0] : List Int) := fun M => ea31 ▸ own_of_box hb31 (by decide) rfl rfl (cells_at (cs := [Vi p3_0]) (CellsOf.cons (c := [Vi p3_0]) rfl CellsOf.nil))
   have hn31 : ∀ b ∈ blk a31, (wj28).drew.heap.size ≤ b ∧ b < w31.heap.size := by subst ea31; intro b hb; simp only [blk, List.mem_singleton] at hb; subst hb; exact ⟨Nat.le_of_eq hq31.symm, lt_of_heap hb31⟩
   clear hb31
   replace hs_p2 := hs_p2.step (plain_int _) he31 nn2
   replace hb4 := he31.box hb4 nn
   replace hv29 := hv29.step (plain_int _) he31 nn2
   replace hms := hms.push he31 hn31
   replace hfr := hfr.push (fun b hb => Nat.le_trans hev.size (hn31 b hb).1)
   replace hev := hev.ext he31
   have ho31 := hw31 (fl [blk a31, [b4], B3_j19, M])
   clear hw31
   rw [← ea31]
   have hin33 := RView.inner hv29 hs_p2
   obtain ⟨B33, hR33, ho33, hs1, hs2, hs3⟩ := OwnR.opn hs_p2 hv29
   replace hs_p2 := hR33
   have hms2 := hms.split 2 rfl hs2 hs1 hs3
   have hsu : ∀ x ∈ fl [blk a31, [b4], blk ai29, B33, M], x ∈ fl [blk a31, [b4], B3_j19, M] := fun x hx => split_sub (ls := [blk a31, [b4], B3_j19, M]) 2 rfl hs2 hs1 x (pick_sub [some 1, some 2, some 0, some 3, some 4] _ rfl x hx)
   replace hms : MS w31 [blk a31, [b4], blk ai29, B33, M] := hms2.pick [some 1, some 2, some 0, some 3, some 4] _ rfl
   replace hpr : NP (fl [B_p2]) w.heap.size [blk ai29, B33] := (NP.cons (fun b hb => hpr.at 0 rfl b (hs2 b hb)) (NP.cons (fun b hb => hpr.at 0 rfl b (hs1 b hb)) (NP.nil _ _)))
   replace ho31 := ho31.sub hsu
   replace ho33 := OwnS.plain (M' := fl [blk a31, [b4], blk ai29, B33, M]) (plain_int _) ho33
   have hg33 := hv29.eq
   have hx33 := hv29.at_
   clear hv29 hms2 hs1 hs2 hs3 hsu
   have hg := guard_l h
   replace h := guard_r h
   have hcall := insI_w (P := Try.prog) Linsert (f := 34) rfl ⟨_, Try.func34, by kernel_rfl, rfl⟩ (T := 3) (T2 := 3) rfl ho33 ho31 (hms.apart 0 2 rfl rfl rfl) hg
   refine x_call 34 #[] #[] [.slice ai29 (x29).length ci29, Vi 0, .slice a31 (([p3_0] : List Int)).length 1] _ rfl rfl rfl rfl hcall ?_
   rintro v w35 ⟨a35, c35, rfl, he35, hn35, hm35, hw35⟩
   clear hcall
   refine ⟨.inr (he35.sub hin33), ?_⟩
   have hst : Stp (fl [blk a31, [b4], blk ai29, B33, M]) w31 (fl [blk a31, [b4], blk a35, B33, M]) w35 := Stp.upd 2 he35 rfl (fun b hb => (hn35 b hb).1)
   replace hs_p2 := hs_p2.step (plain_int _) he35 (hms.apart 3 2 rfl rfl rfl)
   replace hb4 := he35.box hb4 (hms.apart 1 2 rfl rfl rfl _ mem1)
   replace ho31 := ho31.step hst he35 (hms.apart 0 2 rfl rfl rfl)
   replace hms : MS w35 [blk a31, [b4], blk a35, B33, M] := hms.upd 2 he35 rfl hn35
   have hpr2 : NP (fl [B_p2]) w.heap.size [blk a35, B33] := (NP.cons (fun b hb => (hn35 b hb).1.elim (fun h => hpr.at 0 rfl b h) (fun h => .inr (Nat.le_trans hev.size h))) (NP.cons (hpr.at 1 rfl) (NP.nil _ _)))
   replace hev := hev.then he35 (hpr.at 0 rfl)
   replace hpr := hpr2
   clear hpr2
   replace ho33 := hw35 (fl [blk a31, [b4], blk a35, B33, M])
   clear hw35
   obtain ⟨x36, hx36, h⟩ := bind_some h
   obtain ⟨g36, hg36, hr36, hy36⟩ := OwnR.addr (P := Try.prog) (Mo := []) tsl26 hs_p2 hx36
   refine x_indexAddr (xv := .slice a_p2 (d3_j19).length c_p2) (yv := Vi p3_2) (.pointer (some ⟨g36, (Int.toNat p3_2), none⟩)) rfl rfl rfl rfl hr36 ?_
   obtain ⟨w38, B38, hr38, he38, hn38, hR38⟩ := OwnR.cls (P := Try.prog) (plain_int _) tcell22 hs_p2 hg36 hy36 ho33 (hms.apart 2 3 rfl rfl rfl) (hms.ltat 3 rfl)
   refine x_store w38 (xv := .pointer (some ⟨g36, (Int.toNat p3_2), none⟩)) (yv := .slice a35 ((p3_0 :: x29)).length c35) rfl rfl rfl rfl hr38 ?_
   refine inl1 ?_
   have hms2 := hms.merge (C := blk a35 ++ B33) 2 3 rfl rfl (fun x hx => List.mem_append.1 hx)
   replace hpr : NP (fl [B_p2]) w.heap.size [blk a35 ++ B33] := (NP.cons (fun b hb => (List.mem_append.1 hb).elim (fun h => hpr.at 0 rfl b h) (hpr.at 1 rfl b)) (NP.nil _ _))
   have hsu : ∀ x ∈ fl [blk a31, [b4], blk a35 ++ B33, M], x ∈ fl [blk a31, [b4], blk a35, B33, M] := merge_sub (ls := [blk a31, [b4], blk a35, B33, M]) (C := blk a35 ++ B33) 2 3 rfl rfl (fun x hx => List.mem_append.1 hx)
   replace hms : MS w35 [blk a31, [b4], blk a35 ++ B33, M] := hms2
   replace ho31 := ho31.sub hsu
   clear hms2 hsu
   have hst : Stp (fl [blk a31, [b4], blk a35 ++ B33, M]) w35 (fl [blk a31, [b4], B38, M]) w38 := Stp.upd 2 he38 rfl (fun b hb => (hn38 b hb).1)
   replace hb4 := he38.box hb4 (hms.apart 1 2 rfl rfl rfl _ mem1)
   replace ho31 := ho31.step hst he38 (hms.apart 0 2 rfl rfl rfl)
   replace hms : MS w38 [blk a31, [b4], B38, M] := hms.upd 2 he38 rfl hn38
   have hpr2 : NP (fl [B_p2]) w.heap.size [B38] := (NP.cons (fun b hb => (hn38 b hb).1.elim (fun h => hpr.at 0 rfl b h) (fun h => .inr (Nat.le_trans hev.size h))) (NP.nil _ _))
   replace hev := hev.then he38 (hpr.at 0 rfl)
   replace hpr := hpr2
   clear hpr2
   replace hs_p2 := hR38
   have hsl : (Value.slice a_p2 (d3_j19).length c_p2) = (Value.slice a_p2 ((d3_j19.set (Int.toNat p3_2) (p3_0 :: x29))).length c_p2) := by first | (rw [List.length_set]; done) | simp only [List.length_set]
   try rw [hsl]
   clear hsl
   refine x_end rfl ?_
   refine k_block ?_
   refine k_then ?_
   refine c_norm [] trivial (fun J => ?_)
   refine c_sp ?_
   refine x_u 1 [(8, Vi 0)] ?_
   refine x_ek ?_
   refine c_ret ?_
   refine r_ret (r_vals [Vi 0] ⟨rfl, trivial⟩ ?_)
   have hx := some_inj h
   subst hx
   have hmr : MS w38 [B38, M] := hms.pick [some 2, some 3] _ rfl
   have hsu : ∀ x ∈ fl [B38, M], x ∈ fl [blk a31, [b4], B38, M] := pick_sub [some 2, some 3] _ rfl
   have hfe : FR w.heap.size [] := hfr.pick [] _ rfl
   exact ⟨B38, rfl, hev, hs_p2, hmr, hfe, (NP.cons (hpr.at 0 rfl) (NP.nil _ _))⟩
 refine c_sp ?_
 refine x_fieldAddr (xv := Vp b4 0) (Vp b4 2) rfl rfl rfl (reads_field tfld30_2 _ _) ?_
 refine x_load (xv := Vp b4 2) (Vi p3_2) rfl rfl rfl (reads_box tcell3 hb4 nn 2 _ rfl) ?_
 refine x_u 2 [(133, .bool (decide (p3_2 ≥ 0))), (130, .bool (decide (p3_2 ≥ 0)))] ?_
 refine x_ek ?_
 refine c_norm [(2, .slice a_p2 (d3_j19).length c_p2), (7, Vp b4 0), (130, .bool (decide (p3_2 ≥ 0)))] ⟨rfl, rfl, rfl, trivial⟩ (fun J => ?_)
 refine c_if (decide (p3_2 ≥ 0)) rfl h (fun h => ?_) (fun h => ?_)
 · refine c_drawn (innr a_p2 B3_j19) [(0, false), (1, false), (2, false), (3, false), (4, false), (5, false), (6, false), (7, false), (8, true), (9, true), (10, false), (11, false), (12, true), (13, true)] _ (by kernel_rfl) rfl ?_
   replace hs_p2 := hs_p2.step (plain_int _) (Ev.drew wj28) nn2
   replace hb4 := (Ev.drew wj28).box hb4 nn
   replace hms := hms.ev (Ev.drew wj28)
   replace hev := hev.ext (Ev.drew wj28)
   refine x_u 1 [(134, .slice a_p2 (d3_j19).length c_p2)] ?_
   refine x_fieldAddr (xv := Vp b4 0) (Vp b4 2) rfl rfl rfl (reads_field tfld30_2 _ _) ?_
   refine x_load (xv := Vp b4 2) (Vi p3_2) rfl rfl rfl (reads_box tcell3 hb4 ((fun x hx h => hms.apart 0 1 rfl rfl rfl x hx (innr_sub _ h)) _ mem1) 2 _ rfl) ?_
   refine x_u 1 [(137, .slice a_p2 (d3_j19).length c_p2)] ?_
   refine x_fieldAddr (xv := Vp b4 0) (Vp b4 2) rfl rfl rfl (reads_field tfld30_2 _ _) ?_
   refine x_load (xv := Vp b4 2) (Vi p3_2) rfl rfl rfl (reads_box tcell3 hb4 ((fun x hx h => hms.apart 0 1 rfl rfl rfl x hx (innr_sub _ h)) _ mem1) 2 _ rfl) ?_
   obtain ⟨x39, hx39, h⟩ := bind_some h
   obtain ⟨g39, ai39, ci39, hr39, hv39⟩ := OwnR.view (P := Try.prog) (Mo := (innr a_p2 B3_j19)) tsl26 hs_p2 hx39
   refine x_indexAddr (xv := .slice a_p2 (d3_j19).length c_p2) (yv := Vi p3_2) (.pointer (some ⟨g39, (Int.toNat p3_2), none⟩)) rfl rfl rfl rfl hr39 ?_
   refine x_load (xv := .pointer (some ⟨g39, (Int.toNat p3_2), none⟩)) (.slice ai39 (x39).length ci39) rfl rfl rfl (RView.loadI tcell22 hv39) ?_
   refine x_fieldAddr (xv := Vp b4 0) (Vp b4 0) rfl rfl rfl (reads_field tfld30_0 _ _) ?_
   refine x_load (xv := Vp b4 0) (Vi p3_0) rfl rfl rfl (reads_box tcell3 hb4 nn 0 _ rfl) ?_
   refine x_buildSlice (vs := [(0, Vi p3_0)]) #[Vi p3_0] 3 rfl rfl rfl (by kernel_rfl) (fun b41 w41 hq41 hb41 he41 hz41 => ?_)
   refine ⟨.inr (he41.nil), ?_⟩
   have hms0 := hms
   replace hs_p2 := hs_p2.step (plain_int _) he41 nn2
   replace hb4 := he41.box hb4 nn
   replace hv39 := hv39.step (plain_int _) he41 nn2
   replace hms := hms.ev he41
   replace hev := hev.ext he41
   have hs41 : SlR (eInt .i64) w41 (fl [[b4], B3_j19, M]) (Ad b41 0) 1 ([p3_0]) := ro_of_box hms0 hq41 hb41 rfl rfl (cells_at (cs := [Vi p3_0]) (CellsOf.cons (c := [Vi p3_0]) rfl CellsOf.nil))
   clear hb41 hms0
   have hin43 := RView.inner hv39 hs_p2
   obtain ⟨B43, hR43, ho43, hs1, hs2, hs3⟩ := OwnR.opn hs_p2 hv39
   replace hs_p2 := hR43
   have hms2 := hms.split 1 rfl hs2 hs1 hs3
   have hsu : ∀ x ∈ fl [[b4], blk ai39, B43, M], x ∈ fl [[b4], B3_j19, M] := fun x hx => split_sub (ls := [[b4], B3_j19, M]) 1 rfl hs2 hs1 x (pick_sub [some 1, some 0, some 2, some 3] _ rfl x hx)
   replace hms : MS w41 [[b4], blk ai39, B43, M] := hms2.pick [some 1, some 0, some 2, some 3] _ rfl
   replace hpr : NP (fl [B_p2]) w.heap.size [blk ai39, B43] := (NP.cons (fun b hb => hpr.at 0 rfl b (hs2 b hb)) (NP.cons (fun b hb => hpr.at 0 rfl b (hs1 b hb)) (NP.nil _ _)))
   replace hs41 := hs41.sub hsu
   replace ho43 := OwnS.plain (M' := fl [[b4], blk ai39, B43, M]) (plain_int _) ho43
   have hg43 := hv39.eq
   have hx43 := hv39.at_
   clear hv39 hms2 hs1 hs2 hs3 hsu
   have hg := guard_l h
   replace h := guard_r h
   obtain ⟨a45, c45, w45, hr45, he45, hn45, hm45, hw45⟩ := own_appendN tel22 22 ho43 (mem_flat 1 rfl) hs41 hg
   refine x_builtin (vs := [.slice ai39 (x39).length ci39, .slice (Ad b41 0) ([p3_0]).length 1]) _ w45 rfl rfl rfl rfl (run_value _ _ _ _ hr45) ?_
   refine ⟨.inr (he45.sub hin43), ?_⟩
   have hst : Stp (fl [[b4], blk ai39, B43, M]) w41 (fl [[b4], blk a45, B43, M]) w45 := Stp.upd 1 he45 rfl (fun b hb => (hn45 b hb).1)
   replace hs_p2 := hs_p2.step (plain_int _) he45 (hms.apart 2 1 rfl rfl rfl)
   replace hb4 := he45.box hb4 (hms.apart 0 1 rfl rfl rfl _ mem1)
   replace hs41 := hs41.step hst
   replace hms : MS w45 [[b4], blk a45, B43, M] := hms.upd 1 he45 rfl hn45
   have hpr2 : NP (fl [B_p2]) w.heap.size [blk a45, B43] := (NP.cons (fun b hb => (hn45 b hb).1.elim (fun h => hpr.at 0 rfl b h) (fun h => .inr (Nat.le_trans hev.size h))) (NP.cons (hpr.at 1 rfl) (NP.nil _ _)))
   replace hev := hev.then he45 (hpr.at 0 rfl)
   replace hpr := hpr2
   clear hpr2
   replace ho43 := hw45 (fl [[b4], blk a45, B43, M]) hst.new
   clear hw45
   obtain ⟨x46, hx46, h⟩ := bind_some h
   obtain ⟨g46, hg46, hr46, hy46⟩ := OwnR.addr (P := Try.prog) (Mo := []) tsl26 hs_p2 hx46
   refine x_indexAddr (xv := .slice a_p2 (d3_j19).length c_p2) (yv := Vi p3_2) (.pointer (some ⟨g46, (Int.toNat p3_2), none⟩)) rfl rfl rfl rfl hr46 ?_
   obtain ⟨w48, B48, hr48, he48, hn48, hR48⟩ := OwnR.cls (P := Try.prog) (plain_int _) tcell22 hs_p2 hg46 hy46 ho43 (hms.apart 1 2 rfl rfl rfl) (hms.ltat 2 rfl)
   refine x_store w48 (xv := .pointer (some ⟨g46, (Int.toNat p3_2), none⟩)) (yv := .slice a45 ((x39 ++ [p3_0])).length c45) rfl rfl rfl rfl hr48 ?_
   refine inl1 ?_
   have hms2 := hms.merge (C := blk a45 ++ B43) 1 2 rfl rfl (fun x hx => List.mem_append.1 hx)
   replace hpr : NP (fl [B_p2]) w.heap.size [blk a45 ++ B43] := (NP.cons (fun b hb => (List.mem_append.1 hb).elim (fun h => hpr.at 0 rfl b h) (hpr.at 1 rfl b)) (NP.nil _ _))
   have hsu : ∀ x ∈ fl [[b4], blk a45 ++ B43, M], x ∈ fl [[b4], blk a45, B43, M] := merge_sub (ls := [[b4], blk a45, B43, M]) (C := blk a45 ++ B43) 1 2 rfl rfl (fun x hx => List.mem_append.1 hx)
   replace hms : MS w45 [[b4], blk a45 ++ B43, M] := hms2
   replace hs41 := hs41.sub hsu
   clear hms2 hsu
   have hst : Stp (fl [[b4], blk a45 ++ B43, M]) w45 (fl [[b4], B48, M]) w48 := Stp.upd 1 he48 rfl (fun b hb => (hn48 b hb).1)
   replace hb4 := he48.box hb4 (hms.apart 0 1 rfl rfl rfl _ mem1)
   replace hs41 := hs41.step hst
   replace hms : MS w48 [[b4], B48, M] := hms.upd 1 he48 rfl hn48
   have hpr2 : NP (fl [B_p2]) w.heap.size [B48] := (NP.cons (fun b hb => (hn48 b hb).1.elim (fun h => hpr.at 0 rfl b h) (fun h => .inr (Nat.le_trans hev.size h))) (NP.nil _ _))
   replace hev := hev.then he48 (hpr.at 0 rfl)
   replace hpr := hpr2
   clear hpr2
   replace hs_p2 := hR48
   have hsl : (Value.slice a_p2 (d3_j19).length c_p2) = (Value.slice a_p2 ((d3_j19.set (Int.toNat p3_2) (x39 ++ [p3_0]))).length c_p2) := by first | (rw [List.length_set]; done) | simp only [List.length_set]
   try rw [hsl]
   clear hsl
   refine x_end rfl ?_
   refine k_block ?_
   refine k_then ?_
   refine c_norm [] trivial (fun J => ?_)
   refine c_sp ?_
   refine x_u 1 [(8, Vi 0)] ?_
   refine x_ek ?_
   refine c_ret ?_
   refine r_ret (r_vals [Vi 0] ⟨rfl, trivial⟩ ?_)
   have hx := some_inj h
   subst hx
   have hmr : MS w48 [B48, M] := hms.pick [some 1, some 2] _ rfl
   have hsu : ∀ x ∈ fl [B48, M], x ∈ fl [[b4], B48, M] := pick_sub [some 1, some 2] _ rfl
   have hfe : FR w.heap.size [] := hfr.pick [] _ rfl
   exact ⟨B48, rfl, hev, hs_p2, hmr, hfe, (NP.cons (hpr.at 0 rfl) (NP.nil _ _))⟩
 refine c_skip ?_
 refine k_block ?_
 refine k_then ?_
 refine c_sp ?_
 refine x_u 1 [(8, Vi 0)] ?_
 refine x_ek ?_
 refine c_ret ?_
 refine r_ret (r_vals [Vi 0] ⟨rfl, trivial⟩ ?_)
 have hx := some_inj h
 subst hx
 have hmr : MS wj28 [B3_j19, M] := hms.pick [some 1, some 2] _ rfl
 have hsu : ∀ x ∈ fl [B3_j19, M], x ∈ fl [[b4], B3_j19, M] := pick_sub [some 1, some 2] _ rfl
 have hfe : FR w.heap.size [] := hfr.pick [] _ rfl
 exact ⟨B3_j19, rfl, hev, hs_p2, hmr, hfe, (NP.cons (hpr.at 0 rfl) (NP.nil _ _))⟩
def inventory_Run_L12 (p0 : List ((List UInt8) × Int)) (p1 : List Int) (p3 : List (Int × Int × Int × Bool)) (s : (List (List Int)) × Int) : Option (Step ((List (List Int)) × Int) ((Int × Int) ⊕ (List (List Int)))) :=
match s with
| (d10_l12, t24__s24_l12) =>
(if (decide (t24__s24_l12 < ((p3).length : Int))) = true then
((idx p3 t24__s24_l12).bind fun x14 =>
((inventory_shift p0 p1 d10_l12 x14.1 x14.2.1 x14.2.2.1 x14.2.2.2).bind fun x19 =>
(if x19.2.length = d10_l12.length then
(if (x19.1 != 0) = true then
some (.done (.inl (t24__s24_l12, x19.1)))
else
some (.next (x19.2, IntKind.i64.wrap (t24__s24_l12 + 1))))
else none)))
else
some (.done (.inr d10_l12)))

def inventory_Run (p0 : List ((List UInt8) × Int)) (p1 : List Int) (p2 : List (List Int)) (p3 : List (Int × Int × Int × Bool)) : Option ((List (List Int)) × Int × Int) :=
((inventory_Valid p0 p1 p2).bind fun x6 =>
(if (!x6) = true then
some ([], 0, 1)
else
((inventory_copied p2).bind fun x8 =>
((loop (inventory_Run_L12 p0 p1 p3) (x8, 0)).bind fun d => match d with
| (.inl (t9__s9_x1200, t10__s10_x1200)) => some ([], t9__s9_x1200, t10__s10_x1200)
| (.inr d10_x1201) => some (d10_x1201, ((p3).length : Int), 0)))))

theorem inventory_Run_w (a_p0 : Option Addr) (c_p0 : Nat) (p0 : List ((List UInt8) × Int)) (a_p1 : Option Addr) (c_p1 : Nat) (p1 : List Int) (a_p2 : Option Addr) (c_p2 : Nat) (p2 : List (List Int)) (a_p3 : Option Addr) (c_p3 : Nat) (p3 : List (Int × Int × Int × Bool)) (r : (List (List Int)) × Int × Int) (w : World) (M : List Nat) (hms : MS w [M]) (hs_p0 : SlR (eProd eStr (eInt .i64)) w (fl [M]) a_p0 c_p0 p0) (hs_p1 : SlR (eInt .i64) w (fl [M]) a_p1 c_p1 p1) (hs_p2 : SlR (eSl (eInt .i64)) w (fl [M]) a_p2 c_p2 p2) (hs_p3 : SlR (eProd (eInt .i64) (eProd (eInt .i64) (eProd (eInt .i64) eBool))) w (fl [M]) a_p3 c_p3 p3) (h : inventory_Run p0 p1 p2 p3 = some r) : CallVC Try.prog 18 [.slice a_p0 (p0).length c_p0, .slice a_p1 (p1).length c_p1, .slice a_p2 (p2).length c_p2, .slice a_p3 (p3).length c_p3] w fun v w' => ∃ (a0' : Option Addr), ∃ (c0' : Nat), ∃ (B2' : List Nat), v = .tuple #[.slice a0' (r.1).length c0', Vi r.2.1, Vi r.2.2] ∧ Ev [] w w' ∧ MS w' [B2', M] ∧ FR w.heap.size [B2'] ∧ OwnR (eInt .i64) 3 22 w' B2' a0' c0' r.1 none := by
 refine calls_vc hmx Try.func18 (by kernel_rfl) rfl (rs := [.tmp 8, .tmp 9, .tmp 10]) rfl (by kernel_rfl) (args := [.slice a_p0 (p0).length c_p0, .slice a_p1 (p1).length c_p1, .slice a_p2 (p2).length c_p2, .slice a_p3 (p3).length c_p3]) rfl ?_
 have hev : Ev [] w w := Ev.refl _ _
 have hfr : FR w.heap.size [] := FR.nil _
 refine c_sp ?_
 refine x_u 3 [(8, .slice none 0 0), (9, Vi 0), (10, Vi 0)] ?_
 refine x_ek ?_
 refine c_seq ?_
 refine c_sp ?_
 refine x_u 3 [(15, .slice a_p0 (p0).length c_p0), (16, .slice a_p1 (p1).length c_p1), (17, .slice a_p2 (p2).length c_p2)] ?_
 obtain ⟨x6, hx, h⟩ := bind_some h
 have hpk : MS w ([] ++ [M]) := hms.pick [some 0] _ rfl
 have hsb0 : ∀ x ∈ fl ([] ++ [M]), x ∈ fl [M] := pick_sub [some 0] _ rfl
 have hsb : ∀ x ∈ fl ([] ++ [(fl [M])]), x ∈ fl [M] := fun x hx => hsb0 x (fl_unfold x hx)
 have hcall := inventory_Valid_w a_p0 c_p0 p0 a_p1 c_p1 p1 a_p2 c_p2 p2 _ w (fl [M]) (MS.fold (P := []) hpk) (hs_p0.sub hsb) (hs_p1.sub hsb) (hs_p2.sub hsb) hx
 refine x_call 11 #[] #[] [.slice a_p0 (p0).length c_p0, .slice a_p1 (p1).length c_p1, .slice a_p2 (p2).length c_p2] _ rfl rfl rfl rfl hcall ?_
 rintro v w7 ⟨rfl, he7⟩
 clear hcall hx
 refine inl1 ?_
 have hst := Stp.ext (ls := [M]) he7
 replace hs_p0 := hs_p0.step hst
 replace hs_p1 := hs_p1.step hst
 replace hs_p2 := hs_p2.step hst
 replace hs_p3 := hs_p3.step hst
 replace hms := hms.ev he7
 replace hev := hev.ext he7
 clear hpk hsb hsb0
 refine x_u 1 [(19, .bool (!x6))] ?_
 refine x_ek ?_
 refine c_if (!x6) rfl h (fun h => ?_) (fun h => ?_)
 · refine c_sp ?_
   refine x_u 3 [(8, .slice none 0 0), (9, Vi 0), (10, Vi 1)] ?_
   refine x_ek ?_
   refine c_ret ?_
   refine k_then_ret ?_
   refine r_ret (r_vals [.slice none 0 0, Vi 0, Vi 1] ⟨rfl, rfl, rfl, trivial⟩ ?_)
   have hx := some_inj h
   subst hx
   have hmr : MS w7 [([] : List Nat), M] := hms.pick [none, some 0] _ rfl
   have hsu : ∀ x ∈ fl [([] : List Nat), M], x ∈ fl [M] := pick_sub [none, some 0] _ rfl
   have hfe : FR w.heap.size [([] : List Nat)] := hfr.pick [none] _ rfl
   exact ⟨none, 0, ([] : List Nat), rfl, hev, hmr, hfe, OwnR.nil _ _ _ _ _⟩
 refine c_skip ?_
 refine k_then ?_
 refine c_sp ?_
 refine x_u 1 [(20, .slice a_p2 (p2).length c_p2)] ?_
 obtain ⟨x8, hx, h⟩ := bind_some h
 have hpk : MS w7 ([] ++ [M]) := hms.pick [some 0] _ rfl
 have hsb0 : ∀ x ∈ fl ([] ++ [M]), x ∈ fl [M] := pick_sub [some 0] _ rfl
 have hsb : ∀ x ∈ fl ([] ++ [(fl [M])]), x ∈ fl [M] := fun x hx => hsb0 x (fl_unfold x hx)
 have hcall := inventory_copied_w a_p2 c_p2 p2 _ w7 (fl [M]) (MS.fold (P := []) hpk) (hs_p2.sub hsb) hx
 refine x_call 22 #[] #[] [.slice a_p2 (p2).length c_p2] _ rfl rfl rfl rfl hcall ?_
 rintro v w9 ⟨a0_9, c0_9, B2_9, rfl, he9, hmn9, hfn9, hf9_1⟩
 clear hcall hx
 refine inl1 ?_
 have hpk2 : MS w7 ([] ++ [M]) := hms.pick [some 0] _ rfl
 have hsb2 : ∀ x ∈ fl ([] ++ [M]), x ∈ fl [M] := pick_sub [some 0] _ rfl
 have hst0 := Stp.call (LS := [M]) (res := [B2_9]) (par := []) (R := [M]) he9 (fun b hb => hsb2 b (fl_left' (P := []) b hb)) hfn9 (NP.init _ _) (fun x hx => hsb2 x (fl_right' (P := []) x hx))
 have hsn : ∀ x ∈ fl [B2_9, M], x ∈ fl ([B2_9] ++ ([] ++ [M])) := pick_sub [some 0, some 1] _ rfl
 have hst := hst0.res hsn
 replace hs_p0 := hs_p0.step hst
 replace hs_p1 := hs_p1.step hst
 replace hs_p2 := hs_p2.step hst
 replace hs_p3 := hs_p3.step hst
 replace hms : MS w9 [B2_9, M] := (MS.call (P := []) (R := [M]) (res := [B2_9]) (par := []) hpk2 he9 hmn9 hfn9 (NP.init _ _)).pick [some 0, some 1] _ rfl
 have hfr2 : FR w.heap.size [B2_9] := (FR.cons (fun b hb => Nat.le_trans hev.size (hfn9.at 0 rfl b hb)) (FR.nil _))
 replace hev := hev.ext he9
 replace hfr := hfr2
 clear hfr2
 clear hpk hsb hsb0 hpk2 hsb2 hst0 hsn hst
 refine x_u 1 [(11, .slice a0_9 (x8).length c0_9)] ?_
 refine x_ek ?_
 refine c_seq ?_
 refine c_sp ?_
 refine x_u 1 [(22, .slice a_p3 (p3).length c_p3)] ?_
 refine x_len (vs := [.slice a_p3 (p3).length c_p3]) (Vi ((p3).length : Int)) rfl rfl rfl (reads_len tsl41 _ _ _ _ _) ?_
 refine x_u 1 [(24, Vi 0)] ?_
 refine x_ek ?_
 refine c_norm [(0, .slice a_p0 (p0).length c_p0), (1, .slice a_p1 (p1).length c_p1), (3, .slice a_p3 (p3).length c_p3), (11, .slice a0_9 (x8).length c0_9), (22, .slice a_p3 (p3).length c_p3), (23, Vi ((p3).length : Int)), (24, Vi 0)] ⟨rfl, rfl, rfl, rfl, rfl, rfl, rfl, trivial⟩ (fun J => ?_)
 refine c_block ?_
 obtain ⟨d12, hd12, h12⟩ := bind_some h
 obtain ⟨m12, hd12⟩ := loop_some hd12
 refine c_loop (loop_rule hmx (σ := Nat × (List (List Int)) × Int × List Nat) (fun s => match s with | (_, d10_l12, t24__s24_l12, B10_l12) => [(0, .slice a_p0 (p0).length c_p0), (1, .slice a_p1 (p1).length c_p1), (3, .slice a_p3 (p3).length c_p3), (11, .slice a0_9 (d10_l12).length c0_9), (22, .slice a_p3 (p3).length c_p3), (23, Vi ((p3).length : Int)), (24, Vi t24__s24_l12)]) (fun s w' => match s with | (m, d10_l12, t24__s24_l12, B10_l12) => loopN (inventory_Run_L12 p0 p1 p3) m (d10_l12, t24__s24_l12) = some d12 ∧ Ev [] w w' ∧ MS w' [B10_l12, M] ∧ FR w.heap.size [B10_l12] ∧ SlR (eProd eStr (eInt .i64)) w' (fl [B10_l12, M]) a_p0 c_p0 p0 ∧ SlR (eInt .i64) w' (fl [B10_l12, M]) a_p1 c_p1 p1 ∧ SlR (eProd (eInt .i64) (eProd (eInt .i64) (eProd (eInt .i64) eBool))) w' (fl [B10_l12, M]) a_p3 c_p3 p3 ∧ OwnR (eInt .i64) 3 22 w' B10_l12 a0_9 c0_9 d10_l12 none) (fun s => s.1) (m12, x8, 0, B2_9) ⟨rfl, rfl, rfl, rfl, rfl, rfl, rfl, trivial⟩ ⟨hd12, hev, hms, hfr, hs_p0, hs_p1, hs_p3, hf9_1⟩ ?_)
 rintro ⟨m12, d10_l12, t24__s24_l12, B10_l12⟩ J wl12 ⟨hn12, hev, hms, hfr, hs_p0, hs_p1, hs_p3, hf9_1⟩
 rcases m12 with _ | m12
 · exact (loopN_zero hn12).elim
 obtain ⟨t12, h, hn12⟩ := bind_some hn12
 refine c_sp ?_
 refine x_u 1 [(25, .bool (decide (t24__s24_l12 < ((p3).length : Int))))] ?_
 refine x_ek ?_
 refine c_norm [(0, .slice a_p0 (p0).length c_p0), (1, .slice a_p1 (p1).length c_p1), (3, .slice a_p3 (p3).length c_p3), (11, .slice a0_9 (d10_l12).length c0_9), (22, .slice a_p3 (p3).length c_p3), (23, Vi ((p3).length : Int)), (24, Vi t24__s24_l12), (25, .bool (decide (t24__s24_l12 < ((p3).length : Int))))] ⟨rfl, rfl, rfl, rfl, rfl, rfl, rfl, rfl, trivial⟩ (fun J => ?_)
 refine c_seq ?_
 refine c_if (decide (t24__s24_l12 < ((p3).length : Int))) rfl h (fun h => ?_) (fun h => ?_)
 · refine c_skip ?_
   refine k_then ?_
   refine c_seq ?_
   refine c_block ?_
   refine c_sp ?_
   refine x_u 1 [(26, Vi t24__s24_l12)] ?_
   obtain ⟨x14, hx14, h⟩ := bind_some h
   obtain ⟨ad14, cs14, hr14, hc14, hR⟩ := reads_index (Mo := []) tsl41 hs_p3 hx14
   obtain ⟨_, _, rfl, rfl, ⟨_, _, rfl, rfl, ⟨_, _, rfl, rfl, rfl⟩⟩⟩ := hR
   refine x_indexAddr (xv := .slice a_p3 (p3).length c_p3) (yv := Vi t24__s24_l12) (.pointer (some ad14)) rfl rfl rfl rfl hr14 ?_
   refine x_load (xv := .pointer (some ad14)) (.agg #[Vi x14.1, Vi x14.2.1, Vi x14.2.2.1, .bool x14.2.2.2]) rfl rfl rfl (reads_agg tagg30 hc14 (fun _ h => by cases h)) ?_
   refine x_alloc (z := .agg #[Vi 0, Vi 0, Vi 0, .bool false]) rfl rfl (by kernel_rfl) (fun b16 w16 hq16 hb16 he16 hz16 => ?_)
   replace hb16 : w16.heap[b16]? = some (.cells #[Vi 0, Vi 0, Vi 0, .bool false] 30 (0, 0)) := hb16
   refine inl1 ?_
   have hst := Stp.box (ls := [B10_l12, M]) he16 hq16
   replace hs_p0 := hs_p0.step hst
   replace hs_p1 := hs_p1.step hst
   replace hs_p3 := hs_p3.step hst
   replace hf9_1 := hf9_1.step (plain_int _) he16 nn2
   replace hc14 := hc14.step hst
   replace hms := hms.box he16 hq16 hb16
   replace hfr := hfr.box hev.size hq16
   replace hev := hev.ext he16
   refine x_u 1 [(12, Vi t24__s24_l12)] ?_
   obtain ⟨w18, hr18, hb18, he18⟩ := store_boxagg 0 [Vi x14.1, Vi x14.2.1, Vi x14.2.2.1, .bool x14.2.2.2] #[Vi x14.1, Vi x14.2.1, Vi x14.2.2.1, .bool x14.2.2.2] tagg30 hb16 rfl rfl rfl
   refine x_store w18 (xv := Vp b16 0) (yv := .agg #[Vi x14.1, Vi x14.2.1, Vi x14.2.2.1, .bool x14.2.2.2]) rfl rfl rfl rfl hr18 ?_
   refine inl1 ?_
   have hst := Stp.ev' (ls := [[b16], B10_l12, M]) he18 (mem_flat 0 rfl)
   replace hs_p0 := hs_p0.step hst
   replace hs_p1 := hs_p1.step hst
   replace hs_p3 := hs_p3.step hst
   replace hf9_1 := hf9_1.step (plain_int _) he18 (hms.apart 1 0 rfl rfl rfl)
   replace hc14 := hc14.step hst
   replace hms := hms.ev he18
   replace hev := hev.then he18 (fun b hb => .inr (hfr.at 0 rfl b hb))
   replace hb16 := hb18
   refine x_ek ?_
   refine c_sp ?_
   refine x_u 3 [(29, .slice a_p0 (p0).length c_p0), (30, .slice a_p1 (p1).length c_p1), (31, .slice a0_9 (d10_l12).length c0_9)] ?_
   refine x_load (xv := Vp b16 0) (.agg #[Vi x14.1, Vi x14.2.1, Vi x14.2.2.1, .bool x14.2.2.2]) rfl rfl rfl (reads_boxagg 0 [Vi x14.1, Vi x14.2.1, Vi x14.2.2.1, .bool x14.2.2.2] tagg30 hb16 nn rfl) ?_
   obtain ⟨x19, hx, h⟩ := bind_some h
   have hpk : MS w18 ([B10_l12] ++ [[b16], M]) := hms.pick [some 1, some 0, some 2] _ rfl
   have hsb0 : ∀ x ∈ fl ([B10_l12] ++ [[b16], M]), x ∈ fl [[b16], B10_l12, M] := pick_sub [some 1, some 0, some 2] _ rfl
   have hsb : ∀ x ∈ fl ([B10_l12] ++ [(fl [[b16], M])]), x ∈ fl [[b16], B10_l12, M] := fun x hx => hsb0 x (fl_unfold x hx)
   have hcall := inventory_shift_w a_p0 c_p0 p0 a_p1 c_p1 p1 a0_9 c0_9 B10_l12 d10_l12 x14.1 x14.2.1 x14.2.2.1 x14.2.2.2 _ w18 (fl [[b16], M]) (hpk.fold (P := [B10_l12])) (hs_p0.sub hsb) (hs_p1.sub hsb) hf9_1 hx
   refine x_call 23 #[] #[] [.slice a_p0 (p0).length c_p0, .slice a_p1 (p1).length c_p1, .slice a0_9 (d10_l12).length c0_9, .agg #[Vi x14.1, Vi x14.2.1, Vi x14.2.2.1, .bool x14.2.2.2]] _ rfl rfl rfl rfl hcall ?_
   rintro v w20 ⟨B0_20, rfl, he20, hp20_0, hmn20, hfn20, hnp20⟩
   clear hcall hx
   refine inl1 ?_
   have hpk2 : MS w18 ([B10_l12] ++ [[b16], M]) := hms.pick [some 1, some 0, some 2] _ rfl
   have hsb2 : ∀ x ∈ fl ([B10_l12] ++ [[b16], M]), x ∈ fl [[b16], B10_l12, M] := pick_sub [some 1, some 0, some 2] _ rfl
   have hst0 := Stp.call (LS := [[b16], B10_l12, M]) (res := []) (par := [B0_20]) (R := [[b16], M]) he20 (fun b hb => hsb2 b (fl_left' (P := [B10_l12]) b hb)) hfn20 hnp20 (fun x hx => hsb2 x (fl_right' (P := [B10_l12]) x hx))
   have hsn : ∀ x ∈ fl [[b16], B0_20, M], x ∈ fl ([] ++ ([B0_20] ++ [[b16], M])) := pick_sub [some 1, some 0, some 2] _ rfl
   have hst := hst0.res hsn
   replace hs_p0 := hs_p0.step hst
   replace hs_p1 := hs_p1.step hst
   replace hs_p3 := hs_p3.step hst
   replace hb16 := he20.box hb16 ((MS.outs (P := [B10_l12]) hpk2 0 rfl) _ mem1)
   replace hms : MS w20 [[b16], B0_20, M] := (MS.call (P := [B10_l12]) (R := [[b16], M]) (res := []) (par := [B0_20]) hpk2 he20 hmn20 hfn20 hnp20).pick [some 1, some 0, some 2] _ rfl
   have hPf : ∀ b ∈ fl [B10_l12], w.heap.size ≤ b := FR.mem (ls := [B10_l12]) (hfr.pick [some 1] _ rfl)
   have hfr2 : FR w.heap.size [[b16], B0_20] := (FR.cons (hfr.at 0 rfl) (FR.cons (fun b hb => (hnp20.at 0 rfl b hb).elim (fun h => hPf b h) (fun h => Nat.le_trans hev.size h)) (FR.nil _)))
   replace hev := hev.then he20 (fun b hb => .inr (hPf b hb))
   replace hfr := hfr2
   clear hfr2
   replace hf9_1 := hp20_0
   clear hpk hsb hsb0 hpk2 hsb2 hst0 hsn hst
   have hgl := guard_l h
   replace h := guard_r h
   have hsl : (Value.slice a0_9 (d10_l12).length c0_9) = (Value.slice a0_9 (x19.2).length c0_9) := by first | (rw [hgl]; done) | simp only [hgl]
   try rw [hsl]
   clear hsl
   refine x_u 1 [(14, Vi x19.1)] ?_
   refine x_ek ?_
   refine c_sp ?_
   refine x_u 2 [(34, Vi x19.1), (35, .bool (x19.1 != 0))] ?_
   refine x_ek ?_
   refine c_norm [(0, .slice a_p0 (p0).length c_p0), (1, .slice a_p1 (p1).length c_p1), (3, .slice a_p3 (p3).length c_p3), (11, .slice a0_9 (x19.2).length c0_9), (12, Vi t24__s24_l12), (14, Vi x19.1), (22, .slice a_p3 (p3).length c_p3), (23, Vi ((p3).length : Int)), (24, Vi t24__s24_l12), (35, .bool (x19.1 != 0))] ⟨rfl, rfl, rfl, rfl, rfl, rfl, rfl, rfl, rfl, rfl, trivial⟩ (fun J => ?_)
   refine c_if (x19.1 != 0) rfl h (fun h => ?_) (fun h => ?_)
   · refine c_sp ?_
     refine x_u 5 [(36, Vi t24__s24_l12), (37, Vi x19.1), (8, .slice none 0 0), (9, Vi t24__s24_l12), (10, Vi x19.1)] ?_
     refine x_ek ?_
     refine c_ret ?_
     refine k_block_ret ?_
     refine k_then_ret ?_
     have hx := some_inj h
     subst hx
     have hy := some_inj hn12
     subst hy
     replace h := h12
     refine k_then_ret ?_
     refine k_block_ret ?_
     refine k_then_ret ?_
     refine r_ret (r_vals [.slice none 0 0, Vi t24__s24_l12, Vi x19.1] ⟨rfl, rfl, rfl, trivial⟩ ?_)
     have hx := some_inj h
     subst hx
     have hmr : MS w20 [([] : List Nat), M] := hms.pick [none, some 2] _ rfl
     have hsu : ∀ x ∈ fl [([] : List Nat), M], x ∈ fl [[b16], B0_20, M] := pick_sub [none, some 2] _ rfl
     have hfe : FR w.heap.size [([] : List Nat)] := hfr.pick [none] _ rfl
     exact ⟨none, 0, ([] : List Nat), rfl, hev, hmr, hfe, OwnR.nil _ _ _ _ _⟩
   refine c_skip ?_
   refine k_block ?_
   refine k_then ?_
   refine c_plain ?_
   refine x_u 2 [(38, Vi (IntKind.i64.wrap (t24__s24_l12 + 1))), (24, Vi (IntKind.i64.wrap (t24__s24_l12 + 1)))] ?_
   refine x_end rfl ?_
   have hx := some_inj h
   subst hx
   have hpk : MS w20 [B0_20, M] := hms.pick [some 1, some 2] _ rfl
   have hsu : ∀ x ∈ fl [B0_20, M], x ∈ fl [[b16], B0_20, M] := pick_sub [some 1, some 2] _ rfl
   replace hs_p0 := hs_p0.sub hsu
   replace hs_p1 := hs_p1.sub hsu
   replace hs_p3 := hs_p3.sub hsu
   replace hms := hpk
   replace hfr : FR w.heap.size [B0_20] := hfr.pick [some 1] _ rfl
   clear hpk hsu
   exact k_then ⟨(m12, x19.2, IntKind.i64.wrap (t24__s24_l12 + 1), B0_20), ⟨rfl, rfl, rfl, rfl, rfl, rfl, rfl, trivial⟩, ⟨hn12, hev, hms, hfr, hs_p0, hs_p1, hs_p3, hf9_1⟩, Nat.lt_succ_self _⟩
 refine c_exit ?_
 refine k_then_exit ?_
 have hx := some_inj h
 subst hx
 have hy := some_inj hn12
 subst hy
 replace h := h12
 refine k_then_exit ?_
 refine k_block_in ?_
 refine k_then ?_
 refine c_norm [(3, .slice a_p3 (p3).length c_p3), (11, .slice a0_9 (d10_l12).length c0_9)] ⟨rfl, rfl, trivial⟩ (fun J => ?_)
 refine c_sp ?_
 refine x_u 2 [(39, .slice a0_9 (d10_l12).length c0_9), (40, .slice a_p3 (p3).length c_p3)] ?_
 refine x_len (vs := [.slice a_p3 (p3).length c_p3]) (Vi ((p3).length : Int)) rfl rfl rfl (reads_len tsl41 _ _ _ _ _) ?_
 refine x_u 3 [(8, .slice a0_9 (d10_l12).length c0_9), (9, Vi ((p3).length : Int)), (10, Vi 0)] ?_
 refine x_ek ?_
 refine c_ret ?_
 refine r_ret (r_vals [.slice a0_9 (d10_l12).length c0_9, Vi ((p3).length : Int), Vi 0] ⟨rfl, rfl, rfl, trivial⟩ ?_)
 have hx := some_inj h
 subst hx
 have hmr : MS wl12 [B10_l12, M] := hms.pick [some 0, some 1] _ rfl
 have hsu : ∀ x ∈ fl [B10_l12, M], x ∈ fl [B10_l12, M] := pick_sub [some 0, some 1] _ rfl
 have hfe : FR w.heap.size [B10_l12] := hfr.pick [some 0] _ rfl
 exact ⟨a0_9, c0_9, B10_l12, rfl, hev, hmr, hfe, hf9_1⟩
def inventory_String_L10 (p1 : Int) (p2 : Int) (p3 : Int) (x3 : List Int) (s : (List (Int × Int × Int × Bool)) × Int) : Option (Step ((List (Int × Int × Int × Bool)) × Int) (List (Int × Int × Int × Bool))) :=
match s with
| (d12_l10, t56__s56_l10) =>
(if (decide (t56__s56_l10 < ((((x3.drop (Int.toNat (IntKind.i64.wrap (((x3).length : Int) - p3)))).take (Int.toNat (x3.length : Int) - Int.toNat (IntKind.i64.wrap (((x3).length : Int) - p3))))).length : Int))) = true then
((idx ((x3.drop (Int.toNat (IntKind.i64.wrap (((x3).length : Int) - p3)))).take (Int.toNat (x3.length : Int) - Int.toNat (IntKind.i64.wrap (((x3).length : Int) - p3)))) t56__s56_l10).bind fun x14 =>
(if d12_l10.length + ([(x14, p1, p2, false)] : List (Int × Int × Int × Bool)).length ≤ 4294967296 then
some (.next ((d12_l10 ++ ([(x14, p1, p2, false)] : List (Int × Int × Int × Bool))), IntKind.i64.wrap (t56__s56_l10 + 1)))
else none))
else
some (.done d12_l10))

def inventory_String (p0 : List (List Int)) (p1 : Int) (p2 : Int) (p3 : Int) : Option ((List (Int × Int × Int × Bool)) × Int) :=
(if (decide (p1 < 0)) = true then
some ([], 2)
else
(if (decide (p1 ≥ ((p0).length : Int))) = true then
some ([], 2)
else
(if (decide (p2 < 0)) = true then
some ([], 2)
else
(if (decide (p2 ≥ ((p0).length : Int))) = true then
some ([], 2)
else
(if (p1 == p2) = true then
some ([], 2)
else
((idx p0 p1).bind fun x3 =>
(if (decide (p3 < 0)) = true then
some ([], 13)
else
(if (decide (p3 > ((x3).length : Int))) = true then
some ([], 13)
else
(if 0 ≤ IntKind.i64.wrap (((x3).length : Int) - p3) ∧ IntKind.i64.wrap (((x3).length : Int) - p3) ≤ (x3.length : Int) ∧ (x3.length : Int) ≤ (x3.length : Int) then
((loop (inventory_String_L10 p1 p2 p3 x3) (([] : List (Int × Int × Int × Bool)), 0)).bind fun d => match d with
| d12_x10 => some (d12_x10, 0))
else none)))))))))

theorem inventory_String_w (a_p0 : Option Addr) (c_p0 : Nat) (p0 : List (List Int)) (p1 : Int) (p2 : Int) (p3 : Int) (r : (List (Int × Int × Int × Bool)) × Int) (w : World) (M : List Nat) (hms : MS w [M]) (hs_p0 : SlR (eSl (eInt .i64)) w (fl [M]) a_p0 c_p0 p0) (h : inventory_String p0 p1 p2 p3 = some r) : CallVC Try.prog 26 [Vl a_p0 p0 c_p0, Vi p1, Vi p2, Vi p3] w fun v w' => ∃ (a0' : Option Addr), ∃ (c0' : Nat), v = .tuple #[Vl a0' r.1 c0', Vi r.2] ∧ Ev [] w w' ∧ MS w' [blk a0', M] ∧ FR w.heap.size [blk a0'] ∧ OwnS (eProd (eInt .i64) (eProd (eInt .i64) (eProd (eInt .i64) eBool))) 30 w' (fl [blk a0', M]) a0' c0' r.1 := by
 refine calls_vc hmx Try.func26 (by kernel_rfl) rfl (rs := [.tmp 8, .tmp 9]) rfl (by kernel_rfl) (args := [Vl a_p0 p0 c_p0, Vi p1, Vi p2, Vi p3]) rfl ?_
 have hev : Ev [] w w := Ev.refl _ _
 have hfr : FR w.heap.size [] := FR.nil _
 refine c_sp ?_
 refine x_u 2 [(8, .slice none 0 0), (9, Vi 0)] ?_
 refine x_ek ?_
 refine c_seq ?_
 refine c_sp ?_
 refine x_u 3 [(14, Vi p1), (15, .bool (decide (p1 < 0))), (16, .bool (decide (p1 < 0)))] ?_
 refine x_if 16 (decide (p1 < 0)) rfl h (fun h => ?_) (fun h => ?_)
 · refine x_u 20 [(17, undef), (18, undef), (19, undef), (20, undef), (21, .bool true), (22, .bool true), (23, undef), (24, undef), (25, .bool true), (26, .bool true), (27, undef), (28, undef), (29, undef), (30, undef), (31, .bool true), (32, .bool true), (33, undef), (34, undef), (35, undef), (36, .bool true)] ?_
   refine x_ek ?_
   refine c_norm [(0, Vl a_p0 p0 c_p0), (1, Vi p1), (2, Vi p2), (3, Vi p3), (36, .bool true)] ⟨rfl, rfl, rfl, rfl, rfl, trivial⟩ (fun J => ?_)
   refine c_true rfl ?_
   refine c_sp ?_
   refine x_u 2 [(8, .slice none 0 0), (9, Vi 2)] ?_
   refine x_ek ?_
   refine c_ret ?_
   refine k_then_ret ?_
   refine r_ret (r_vals [.slice none 0 0, Vi 2] ⟨rfl, rfl, trivial⟩ ?_)
   have hx := some_inj h
   subst hx
   have hmr : MS w [blk none, M] := hms.pick [none, some 0] _ rfl
   have hsu : ∀ x ∈ fl [blk none, M], x ∈ fl [M] := pick_sub [none, some 0] _ rfl
   have hfe : FR w.heap.size [blk none] := hfr.pick [none] _ rfl
   exact ⟨none, 0, rfl, hev, hmr, hfe, OwnS.nil _ _ _ _⟩
 refine x_u 2 [(17, Vi p1), (18, Vl a_p0 p0 c_p0)] ?_
 refine x_len (vs := [Vl a_p0 p0 c_p0]) (Vi ((p0).length : Int)) rfl rfl rfl (reads_len tsl26 _ _ _ _ _) ?_
 refine x_u 3 [(20, .bool (decide (p1 ≥ ((p0).length : Int)))), (21, .bool (decide (p1 ≥ ((p0).length : Int)))), (22, .bool (decide (p1 ≥ ((p0).length : Int))))] ?_
 refine x_if 22 (decide (p1 ≥ ((p0).length : Int))) rfl h (fun h => ?_) (fun h => ?_)
 · refine x_u 14 [(23, undef), (24, undef), (25, .bool true), (26, .bool true), (27, undef), (28, undef), (29, undef), (30, undef), (31, .bool true), (32, .bool true), (33, undef), (34, undef), (35, undef), (36, .bool true)] ?_
   refine x_ek ?_
   refine c_norm [(0, Vl a_p0 p0 c_p0), (1, Vi p1), (2, Vi p2), (3, Vi p3), (36, .bool true)] ⟨rfl, rfl, rfl, rfl, rfl, trivial⟩ (fun J => ?_)
   refine c_true rfl ?_
   refine c_sp ?_
   refine x_u 2 [(8, .slice none 0 0), (9, Vi 2)] ?_
   refine x_ek ?_
   refine c_ret ?_
   refine k_then_ret ?_
   refine r_ret (r_vals [.slice none 0 0, Vi 2] ⟨rfl, rfl, trivial⟩ ?_)
   have hx := some_inj h
   subst hx
   have hmr : MS w [blk none, M] := hms.pick [none, some 0] _ rfl
   have hsu : ∀ x ∈ fl [blk none, M], x ∈ fl [M] := pick_sub [none, some 0] _ rfl
   have hfe : FR w.heap.size [blk none] := hfr.pick [none] _ rfl
   exact ⟨none, 0, rfl, hev, hmr, hfe, OwnS.nil _ _ _ _⟩
 refine x_u 4 [(23, Vi p2), (24, .bool (decide (p2 < 0))), (25, .bool (decide (p2 < 0))), (26, .bool (decide (p2 < 0)))] ?_
 refine x_if 26 (decide (p2 < 0)) rfl h (fun h => ?_) (fun h => ?_)
 · refine x_u 10 [(27, undef), (28, undef), (29, undef), (30, undef), (31, .bool true), (32, .bool true), (33, undef), (34, undef), (35, undef), (36, .bool true)] ?_
   refine x_ek ?_
   refine c_norm [(0, Vl a_p0 p0 c_p0), (1, Vi p1), (2, Vi p2), (3, Vi p3), (36, .bool true)] ⟨rfl, rfl, rfl, rfl, rfl, trivial⟩ (fun J => ?_)
   refine c_true rfl ?_
   refine c_sp ?_
   refine x_u 2 [(8, .slice none 0 0), (9, Vi 2)] ?_
   refine x_ek ?_
   refine c_ret ?_
   refine k_then_ret ?_
   refine r_ret (r_vals [.slice none 0 0, Vi 2] ⟨rfl, rfl, trivial⟩ ?_)
   have hx := some_inj h
   subst hx
   have hmr : MS w [blk none, M] := hms.pick [none, some 0] _ rfl
   have hsu : ∀ x ∈ fl [blk none, M], x ∈ fl [M] := pick_sub [none, some 0] _ rfl
   have hfe : FR w.heap.size [blk none] := hfr.pick [none] _ rfl
   exact ⟨none, 0, rfl, hev, hmr, hfe, OwnS.nil _ _ _ _⟩
 refine x_u 2 [(27, Vi p2), (28, Vl a_p0 p0 c_p0)] ?_
 refine x_len (vs := [Vl a_p0 p0 c_p0]) (Vi ((p0).length : Int)) rfl rfl rfl (reads_len tsl26 _ _ _ _ _) ?_
 refine x_u 3 [(30, .bool (decide (p2 ≥ ((p0).length : Int)))), (31, .bool (decide (p2 ≥ ((p0).length : Int)))), (32, .bool (decide (p2 ≥ ((p0).length : Int))))] ?_
 refine x_if 32 (decide (p2 ≥ ((p0).length : Int))) rfl h (fun h => ?_) (fun h => ?_)
 · refine x_u 4 [(33, undef), (34, undef), (35, undef), (36, .bool true)] ?_
   refine x_ek ?_
   refine c_norm [(0, Vl a_p0 p0 c_p0), (1, Vi p1), (2, Vi p2), (3, Vi p3), (36, .bool true)] ⟨rfl, rfl, rfl, rfl, rfl, trivial⟩ (fun J => ?_)
   refine c_true rfl ?_
   refine c_sp ?_
   refine x_u 2 [(8, .slice none 0 0), (9, Vi 2)] ?_
   refine x_ek ?_
   refine c_ret ?_
   refine k_then_ret ?_
   refine r_ret (r_vals [.slice none 0 0, Vi 2] ⟨rfl, rfl, trivial⟩ ?_)
   have hx := some_inj h
   subst hx
   have hmr : MS w [blk none, M] := hms.pick [none, some 0] _ rfl
   have hsu : ∀ x ∈ fl [blk none, M], x ∈ fl [M] := pick_sub [none, some 0] _ rfl
   have hfe : FR w.heap.size [blk none] := hfr.pick [none] _ rfl
   exact ⟨none, 0, rfl, hev, hmr, hfe, OwnS.nil _ _ _ _⟩
 refine x_u 4 [(33, Vi p1), (34, Vi p2), (35, .bool (p1 == p2)), (36, .bool (p1 == p2))] ?_
 refine x_ek ?_
 refine c_norm [(0, Vl a_p0 p0 c_p0), (1, Vi p1), (2, Vi p2), (3, Vi p3), (36, .bool (p1 == p2))] ⟨rfl, rfl, rfl, rfl, rfl, trivial⟩ (fun J => ?_)
 refine c_if (p1 == p2) rfl h (fun h => ?_) (fun h => ?_)
 · refine c_sp ?_
   refine x_u 2 [(8, .slice none 0 0), (9, Vi 2)] ?_
   refine x_ek ?_
   refine c_ret ?_
   refine k_then_ret ?_
   refine r_ret (r_vals [.slice none 0 0, Vi 2] ⟨rfl, rfl, trivial⟩ ?_)
   have hx := some_inj h
   subst hx
   have hmr : MS w [blk none, M] := hms.pick [none, some 0] _ rfl
   have hsu : ∀ x ∈ fl [blk none, M], x ∈ fl [M] := pick_sub [none, some 0] _ rfl
   have hfe : FR w.heap.size [blk none] := hfr.pick [none] _ rfl
   exact ⟨none, 0, rfl, hev, hmr, hfe, OwnS.nil _ _ _ _⟩
 refine c_skip ?_
 refine k_then ?_
 refine c_sp ?_
 refine x_u 2 [(37, Vl a_p0 p0 c_p0), (38, Vi p1)] ?_
 obtain ⟨x3, hx3, h⟩ := bind_some h
 obtain ⟨ad3, cs3, hr3, hc3, hR⟩ := reads_index (Mo := []) tsl26 hs_p0 hx3
 obtain ⟨a4, c4, rfl, hs4⟩ := hR
 refine x_indexAddr (xv := Vl a_p0 p0 c_p0) (yv := Vi p1) (.pointer (some ad3)) rfl rfl rfl rfl hr3 ?_
 refine x_load (xv := .pointer (some ad3)) (Vl a4 x3 c4) rfl rfl rfl (reads_cell0 tcell22 hc3 (fun _ h => by cases h)) ?_
 refine x_u 1 [(10, Vl a4 x3 c4)] ?_
 refine x_ek ?_
 refine c_seq ?_
 refine c_sp ?_
 refine x_u 3 [(41, Vi p3), (42, .bool (decide (p3 < 0))), (43, .bool (decide (p3 < 0)))] ?_
 refine x_if 43 (decide (p3 < 0)) rfl h (fun h => ?_) (fun h => ?_)
 · refine x_u 5 [(44, undef), (45, undef), (46, undef), (47, undef), (48, .bool true)] ?_
   refine x_ek ?_
   refine c_norm [(1, Vi p1), (2, Vi p2), (3, Vi p3), (10, Vl a4 x3 c4), (48, .bool true)] ⟨rfl, rfl, rfl, rfl, rfl, trivial⟩ (fun J => ?_)
   refine c_true rfl ?_
   refine c_sp ?_
   refine x_u 2 [(8, .slice none 0 0), (9, Vi 13)] ?_
   refine x_ek ?_
   refine c_ret ?_
   refine k_then_ret ?_
   refine r_ret (r_vals [.slice none 0 0, Vi 13] ⟨rfl, rfl, trivial⟩ ?_)
   have hx := some_inj h
   subst hx
   have hmr : MS w [blk none, M] := hms.pick [none, some 0] _ rfl
   have hsu : ∀ x ∈ fl [blk none, M], x ∈ fl [M] := pick_sub [none, some 0] _ rfl
   have hfe : FR w.heap.size [blk none] := hfr.pick [none] _ rfl
   exact ⟨none, 0, rfl, hev, hmr, hfe, OwnS.nil _ _ _ _⟩
 refine x_u 2 [(44, Vi p3), (45, Vl a4 x3 c4)] ?_
 refine x_len (vs := [Vl a4 x3 c4]) (Vi ((x3).length : Int)) rfl rfl rfl (reads_len tsl22 _ _ _ _ _) ?_
 refine x_u 2 [(47, .bool (decide (p3 > ((x3).length : Int)))), (48, .bool (decide (p3 > ((x3).length : Int))))] ?_
 refine x_ek ?_
 refine c_norm [(1, Vi p1), (2, Vi p2), (3, Vi p3), (10, Vl a4 x3 c4), (48, .bool (decide (p3 > ((x3).length : Int))))] ⟨rfl, rfl, rfl, rfl, rfl, trivial⟩ (fun J => ?_)
 refine c_if (decide (p3 > ((x3).length : Int))) rfl h (fun h => ?_) (fun h => ?_)
 · refine c_sp ?_
   refine x_u 2 [(8, .slice none 0 0), (9, Vi 13)] ?_
   refine x_ek ?_
   refine c_ret ?_
   refine k_then_ret ?_
   refine r_ret (r_vals [.slice none 0 0, Vi 13] ⟨rfl, rfl, trivial⟩ ?_)
   have hx := some_inj h
   subst hx
   have hmr : MS w [blk none, M] := hms.pick [none, some 0] _ rfl
   have hsu : ∀ x ∈ fl [blk none, M], x ∈ fl [M] := pick_sub [none, some 0] _ rfl
   have hfe : FR w.heap.size [blk none] := hfr.pick [none] _ rfl
   exact ⟨none, 0, rfl, hev, hmr, hfe, OwnS.nil _ _ _ _⟩
 refine c_skip ?_
 refine k_then ?_
 refine c_sp ?_
 refine x_u 1 [(11, .slice none 0 0)] ?_
 refine x_ek ?_
 refine c_seq ?_
 refine c_sp ?_
 refine x_u 2 [(49, Vl a4 x3 c4), (50, Vl a4 x3 c4)] ?_
 refine x_len (vs := [Vl a4 x3 c4]) (Vi ((x3).length : Int)) rfl rfl rfl (reads_len tsl22 _ _ _ _ _) ?_
 refine x_u 2 [(52, Vi p3), (53, Vi (IntKind.i64.wrap (((x3).length : Int) - p3)))] ?_
 have hg := guard_l h
 replace h := guard_r h
 obtain ⟨a8, c8, hr8, hs8⟩ := SlR.sliced (P := Try.prog) (Mo := []) tsl22 hs4 (some (IntKind.i64.wrap (((x3).length : Int) - p3))) none hg
 replace hs8 : SlR (eInt .i64) w (fl [M]) a8 c8 ((x3.drop (Int.toNat (IntKind.i64.wrap (((x3).length : Int) - p3)))).take (Int.toNat (x3.length : Int) - Int.toNat (IntKind.i64.wrap (((x3).length : Int) - p3)))) := hs8
 refine x_slice (xv := Vl a4 x3 c4) (lv := (some (Vi (IntKind.i64.wrap (((x3).length : Int) - p3))))) (hv := none) (mv := none) (.slice a8 (((x3.drop (Int.toNat (IntKind.i64.wrap (((x3).length : Int) - p3)))).take (Int.toNat (x3.length : Int) - Int.toNat (IntKind.i64.wrap (((x3).length : Int) - p3))))).length c8) rfl rfl rfl rfl rfl rfl hr8 ?_
 refine x_len (vs := [.slice a8 (((x3.drop (Int.toNat (IntKind.i64.wrap (((x3).length : Int) - p3)))).take (Int.toNat (x3.length : Int) - Int.toNat (IntKind.i64.wrap (((x3).length : Int) - p3))))).length c8]) (Vi ((((x3.drop (Int.toNat (IntKind.i64.wrap (((x3).length : Int) - p3)))).take (Int.toNat (x3.length : Int) - Int.toNat (IntKind.i64.wrap (((x3).length : Int) - p3))))).length : Int)) rfl rfl rfl (reads_len tsl22 _ _ _ _ _) ?_
 refine x_u 1 [(56, Vi 0)] ?_
 refine x_ek ?_
 refine c_block ?_
 have hst := Stp.push (ls := [M]) (l := blk none) (Ev.refl [] w) (fun _ h => by cases h) (fun _ h => by cases h)
 replace hs8 := hs8.step hst
 replace hms := hms.push (l := blk none) (Ev.refl [] _) (fun _ h => by cases h)
 replace hfr := hfr.push (l := blk none) (fun _ h => by cases h)
 have ho11 := OwnS.nil (eProd (eInt .i64) (eProd (eInt .i64) (eProd (eInt .i64) eBool))) 30 w (fl [blk none, M])
 obtain ⟨d10, hd10, h10⟩ := bind_some h
 obtain ⟨m10, hd10⟩ := loop_some hd10
 refine c_loop (loop_rule hmx (σ := Nat × (List (Int × Int × Int × Bool)) × Int × Option Addr × Nat) (fun s => match s with | (_, d12_l10, t56__s56_l10, a12_l10, c12_l10) => [(1, Vi p1), (2, Vi p2), (11, Vl a12_l10 d12_l10 c12_l10), (54, .slice a8 (((x3.drop (Int.toNat (IntKind.i64.wrap (((x3).length : Int) - p3)))).take (Int.toNat (x3.length : Int) - Int.toNat (IntKind.i64.wrap (((x3).length : Int) - p3))))).length c8), (55, Vi ((((x3.drop (Int.toNat (IntKind.i64.wrap (((x3).length : Int) - p3)))).take (Int.toNat (x3.length : Int) - Int.toNat (IntKind.i64.wrap (((x3).length : Int) - p3))))).length : Int)), (56, Vi t56__s56_l10)]) (fun s w' => match s with | (m, d12_l10, t56__s56_l10, a12_l10, c12_l10) => loopN (inventory_String_L10 p1 p2 p3 x3) m (d12_l10, t56__s56_l10) = some d10 ∧ Ev [] w w' ∧ MS w' [blk a12_l10, M] ∧ FR w.heap.size [blk a12_l10] ∧ OwnS (eProd (eInt .i64) (eProd (eInt .i64) (eProd (eInt .i64) eBool))) 30 w' (fl [blk a12_l10, M]) a12_l10 c12_l10 d12_l10 ∧ SlR (eInt .i64) w' (fl [blk a12_l10, M]) a8 c8 ((x3.drop (Int.toNat (IntKind.i64.wrap (((x3).length : Int) - p3)))).take (Int.toNat (x3.length : Int) - Int.toNat (IntKind.i64.wrap (((x3).length : Int) - p3))))) (fun s => s.1) (m10, ([] : List (Int × Int × Int × Bool)), 0, none, 0) ⟨rfl, rfl, rfl, rfl, rfl, rfl, trivial⟩ ⟨hd10, hev, hms, hfr, ho11, hs8⟩ ?_)
 rintro ⟨m10, d12_l10, t56__s56_l10, a12_l10, c12_l10⟩ J wl10 ⟨hn10, hev, hms, hfr, hj12_l10, hs8⟩
 rcases m10 with _ | m10
 · exact (loopN_zero hn10).elim
 obtain ⟨t10, h, hn10⟩ := bind_some hn10
 refine c_sp ?_
 refine x_u 1 [(57, .bool (decide (t56__s56_l10 < ((((x3.drop (Int.toNat (IntKind.i64.wrap (((x3).length : Int) - p3)))).take (Int.toNat (x3.length : Int) - Int.toNat (IntKind.i64.wrap (((x3).length : Int) - p3))))).length : Int))))] ?_
 refine x_ek ?_
 refine c_norm [(1, Vi p1), (2, Vi p2), (11, Vl a12_l10 d12_l10 c12_l10), (54, .slice a8 (((x3.drop (Int.toNat (IntKind.i64.wrap (((x3).length : Int) - p3)))).take (Int.toNat (x3.length : Int) - Int.toNat (IntKind.i64.wrap (((x3).length : Int) - p3))))).length c8), (55, Vi ((((x3.drop (Int.toNat (IntKind.i64.wrap (((x3).length : Int) - p3)))).take (Int.toNat (x3.length : Int) - Int.toNat (IntKind.i64.wrap (((x3).length : Int) - p3))))).length : Int)), (56, Vi t56__s56_l10), (57, .bool (decide (t56__s56_l10 < ((((x3.drop (Int.toNat (IntKind.i64.wrap (((x3).length : Int) - p3)))).take (Int.toNat (x3.length : Int) - Int.toNat (IntKind.i64.wrap (((x3).length : Int) - p3))))).length : Int))))] ⟨rfl, rfl, rfl, rfl, rfl, rfl, rfl, trivial⟩ (fun J => ?_)
 refine c_seq ?_
 refine c_if (decide (t56__s56_l10 < ((((x3.drop (Int.toNat (IntKind.i64.wrap (((x3).length : Int) - p3)))).take (Int.toNat (x3.length : Int) - Int.toNat (IntKind.i64.wrap (((x3).length : Int) - p3))))).length : Int))) rfl h (fun h => ?_) (fun h => ?_)
 · refine c_skip ?_
   refine k_then ?_
   refine c_seq ?_
   refine c_block ?_
   refine c_sp ?_
   obtain ⟨x14, hx14, h⟩ := bind_some h
   obtain ⟨ad14, cs14, hr14, hc14, hR⟩ := reads_index (Mo := []) tsl22 hs8 hx14
   obtain rfl := hR
   refine x_indexAddr (xv := .slice a8 (((x3.drop (Int.toNat (IntKind.i64.wrap (((x3).length : Int) - p3)))).take (Int.toNat (x3.length : Int) - Int.toNat (IntKind.i64.wrap (((x3).length : Int) - p3))))).length c8) (yv := Vi t56__s56_l10) (.pointer (some ad14)) rfl rfl rfl rfl hr14 ?_
   refine x_load (xv := .pointer (some ad14)) (Vi x14) rfl rfl rfl (reads_cell0 tcell3 hc14 (fun _ h => by cases h)) ?_
   refine x_u 1 [(13, Vi x14)] ?_
   refine x_ek ?_
   refine c_plain ?_
   refine x_u 4 [(60, Vl a12_l10 d12_l10 c12_l10), (61, Vi x14), (62, Vi p1), (63, Vi p2)] ?_
   refine x_build (vs := [(0, Vi x14), (1, Vi p1), (2, Vi p2)]) (.agg #[Vi x14, Vi p1, Vi p2, .bool false]) rfl rfl rfl (fun _ _ => by kernel_rfl) ?_
   refine x_buildSlice (vs := [(0, .agg #[Vi x14, Vi p1, Vi p2, .bool false])]) #[Vi x14, Vi p1, Vi p2, .bool false] 30 rfl rfl rfl (by kernel_rfl) (fun b16 w16 hq16 hb16 he16 hz16 => ?_)
   refine inl1 ?_
   have hms0 := hms
   have hst := Stp.ext (ls := [blk a12_l10, M]) he16
   replace hj12_l10 := hj12_l10.step hst he16 nn2
   replace hs8 := hs8.step hst
   replace hms := hms.ev he16
   replace hev := hev.ext he16
   have hs16 : SlR (eProd (eInt .i64) (eProd (eInt .i64) (eProd (eInt .i64) eBool))) w16 (fl [blk a12_l10, M]) (Ad b16 0) 1 ([(x14, p1, p2, false)] : List (Int × Int × Int × Bool)) := ro_of_box hms0 hq16 hb16 rfl rfl (cells_at (cs := [Vi x14, Vi p1, Vi p2, .bool false]) (CellsOf.cons (c := [Vi x14, Vi p1, Vi p2, .bool false]) ⟨[Vi x14], [Vi p1, Vi p2, .bool false], rfl, rfl, ⟨[Vi p1], [Vi p2, .bool false], rfl, rfl, ⟨[Vi p2], [.bool false], rfl, rfl, rfl⟩⟩⟩ CellsOf.nil))
   clear hb16 hms0
   have hg := guard_l h
   replace h := guard_r h
   obtain ⟨a18, c18, w18, hr18, he18, hn18, hm18, hw18⟩ := own_appendN tel41 41 hj12_l10 (mem_flat 0 rfl) hs16 hg
   refine x_builtin (vs := [Vl a12_l10 d12_l10 c12_l10, .slice (Ad b16 0) (([(x14, p1, p2, false)] : List (Int × Int × Int × Bool))).length 1]) _ w18 rfl rfl rfl rfl (run_value _ _ _ _ hr18) ?_
   refine inl1 ?_
   have hst : Stp (fl [blk a12_l10, M]) w16 (fl [blk a18, M]) w18 := Stp.upd 0 he18 rfl (fun b hb => (hn18 b hb).1)
   replace hs8 := hs8.step hst
   replace hs16 := hs16.step hst
   replace hms : MS w18 [blk a18, M] := hms.upd 0 he18 rfl hn18
   have hfr2 : FR w.heap.size [blk a18] := hfr.upd 0 rfl hev.size (fun b hb => (hn18 b hb).1)
   replace hev := hev.then he18 (fun b hb => .inr (hfr.at 0 rfl b hb))
   replace hfr := hfr2
   clear hfr2
   replace hj12_l10 := hw18 (fl [blk a18, M]) hst.new
   clear hw18
   refine x_u 1 [(11, .slice a18 ((d12_l10 ++ ([(x14, p1, p2, false)] : List (Int × Int × Int × Bool)))).length c18)] ?_
   refine x_end rfl ?_
   refine k_block ?_
   refine k_then ?_
   refine c_plain ?_
   refine x_u 2 [(67, Vi (IntKind.i64.wrap (t56__s56_l10 + 1))), (56, Vi (IntKind.i64.wrap (t56__s56_l10 + 1)))] ?_
   refine x_end rfl ?_
   have hx := some_inj h
   subst hx
   exact k_then ⟨(m10, (d12_l10 ++ ([(x14, p1, p2, false)] : List (Int × Int × Int × Bool))), IntKind.i64.wrap (t56__s56_l10 + 1), a18, c18), ⟨rfl, rfl, rfl, rfl, rfl, rfl, trivial⟩, ⟨hn10, hev, hms, hfr, hj12_l10, hs8⟩, Nat.lt_succ_self _⟩
 refine c_exit ?_
 refine k_then_exit ?_
 have hx := some_inj h
 subst hx
 have hy := some_inj hn10
 subst hy
 replace h := h10
 refine k_then_exit ?_
 refine k_block_in ?_
 refine k_then ?_
 refine c_norm [(11, Vl a12_l10 d12_l10 c12_l10)] ⟨rfl, trivial⟩ (fun J => ?_)
 refine c_sp ?_
 refine x_u 3 [(68, Vl a12_l10 d12_l10 c12_l10), (8, Vl a12_l10 d12_l10 c12_l10), (9, Vi 0)] ?_
 refine x_ek ?_
 refine c_ret ?_
 refine r_ret (r_vals [Vl a12_l10 d12_l10 c12_l10, Vi 0] ⟨rfl, rfl, trivial⟩ ?_)
 have hx := some_inj h
 subst hx
 have hmr : MS wl10 [blk a12_l10, M] := hms.pick [some 0, some 1] _ rfl
 have hsu : ∀ x ∈ fl [blk a12_l10, M], x ∈ fl [blk a12_l10, M] := pick_sub [some 0, some 1] _ rfl
 have hfe : FR w.heap.size [blk a12_l10] := hfr.pick [some 0] _ rfl
 exact ⟨a12_l10, c12_l10, rfl, hev, hmr, hfe, hj12_l10.sub hsu⟩
def inventory_Apply (p0 : List ((List UInt8) × Int)) (p1 : List Int) (p2 : List (List Int)) (p3_0 : Int) (p3_1 : Int) (p3_2 : Int) (p3_3 : Bool) : Option ((List (List Int)) × Int) :=
((inventory_Valid p0 p1 p2).bind fun x7 =>
(if (!x7) = true then
some ([], 1)
else
((inventory_copied p2).bind fun x9 =>
((inventory_shift p0 p1 x9 p3_0 p3_1 p3_2 p3_3).bind fun x12 =>
(if x12.2.length = x9.length then
(if (x12.1 != 0) = true then
some ([], x12.1)
else
some (x12.2, 0))
else none)))))

theorem inventory_Apply_w (a_p0 : Option Addr) (c_p0 : Nat) (p0 : List ((List UInt8) × Int)) (a_p1 : Option Addr) (c_p1 : Nat) (p1 : List Int) (a_p2 : Option Addr) (c_p2 : Nat) (p2 : List (List Int)) (p3_0 : Int) (p3_1 : Int) (p3_2 : Int) (p3_3 : Bool) (r : (List (List Int)) × Int) (w : World) (M : List Nat) (hms : MS w [M]) (hs_p0 : SlR (eProd eStr (eInt .i64)) w (fl [M]) a_p0 c_p0 p0) (hs_p1 : SlR (eInt .i64) w (fl [M]) a_p1 c_p1 p1) (hs_p2 : SlR (eSl (eInt .i64)) w (fl [M]) a_p2 c_p2 p2) (h : inventory_Apply p0 p1 p2 p3_0 p3_1 p3_2 p3_3 = some r) : CallVC Try.prog 9 [.slice a_p0 (p0).length c_p0, .slice a_p1 (p1).length c_p1, .slice a_p2 (p2).length c_p2, .agg #[Vi p3_0, Vi p3_1, Vi p3_2, .bool p3_3]] w fun v w' => ∃ (a0' : Option Addr), ∃ (c0' : Nat), ∃ (B2' : List Nat), v = .tuple #[.slice a0' (r.1).length c0', Vi r.2] ∧ Ev [] w w' ∧ MS w' [B2', M] ∧ FR w.heap.size [B2'] ∧ OwnR (eInt .i64) 3 22 w' B2' a0' c0' r.1 none := by
 refine calls_vc hmx Try.func9 (by kernel_rfl) rfl (rs := [.tmp 8, .tmp 9]) rfl (by kernel_rfl) (args := [.slice a_p0 (p0).length c_p0, .slice a_p1 (p1).length c_p1, .slice a_p2 (p2).length c_p2, .agg #[Vi p3_0, Vi p3_1, Vi p3_2, .bool p3_3]]) rfl ?_
 have hev : Ev [] w w := Ev.refl _ _
 have hfr : FR w.heap.size [] := FR.nil _
 refine c_sp ?_
 refine x_box (xv := .agg #[Vi p3_0, Vi p3_1, Vi p3_2, .bool p3_3]) rfl rfl rfl (fun b4 w4 hq4 hb4 he4 hz4 => ?_)
 replace hb4 : w4.heap[b4]? = some (.cells #[Vi p3_0, Vi p3_1, Vi p3_2, .bool p3_3] 30 (0, 0)) := hb4
 refine inl1 ?_
 have hst := Stp.box (ls := [M]) he4 hq4
 replace hs_p0 := hs_p0.step hst
 replace hs_p1 := hs_p1.step hst
 replace hs_p2 := hs_p2.step hst
 replace hms := hms.box he4 hq4 hb4
 replace hfr := hfr.box hev.size hq4
 replace hev := hev.ext he4
 refine x_u 2 [(8, .slice none 0 0), (9, Vi 0)] ?_
 refine x_ek ?_
 refine c_seq ?_
 refine c_sp ?_
 refine x_u 3 [(12, .slice a_p0 (p0).length c_p0), (13, .slice a_p1 (p1).length c_p1), (14, .slice a_p2 (p2).length c_p2)] ?_
 obtain ⟨x7, hx, h⟩ := bind_some h
 have hpk : MS w4 ([] ++ [[b4], M]) := hms.pick [some 0, some 1] _ rfl
 have hsb0 : ∀ x ∈ fl ([] ++ [[b4], M]), x ∈ fl [[b4], M] := pick_sub [some 0, some 1] _ rfl
 have hsb : ∀ x ∈ fl ([] ++ [(fl [[b4], M])]), x ∈ fl [[b4], M] := fun x hx => hsb0 x (fl_unfold x hx)
 have hcall := inventory_Valid_w a_p0 c_p0 p0 a_p1 c_p1 p1 a_p2 c_p2 p2 _ w4 (fl [[b4], M]) (MS.fold (P := []) hpk) (hs_p0.sub hsb) (hs_p1.sub hsb) (hs_p2.sub hsb) hx
 refine x_call 11 #[] #[] [.slice a_p0 (p0).length c_p0, .slice a_p1 (p1).length c_p1, .slice a_p2 (p2).length c_p2] _ rfl rfl rfl rfl hcall ?_
 rintro v w8 ⟨rfl, he8⟩
 clear hcall hx
 refine inl1 ?_
 have hst := Stp.ext (ls := [[b4], M]) he8
 replace hs_p0 := hs_p0.step hst
 replace hs_p1 := hs_p1.step hst
 replace hs_p2 := hs_p2.step hst
 replace hb4 := he8.box hb4 nn
 replace hms := hms.ev he8
 replace hev := hev.ext he8
 clear hpk hsb hsb0
 refine x_u 1 [(16, .bool (!x7))] ?_
 refine x_ek ?_
 refine c_if (!x7) rfl h (fun h => ?_) (fun h => ?_)
 · refine c_sp ?_
   refine x_u 2 [(8, .slice none 0 0), (9, Vi 1)] ?_
   refine x_ek ?_
   refine c_ret ?_
   refine k_then_ret ?_
   refine r_ret (r_vals [.slice none 0 0, Vi 1] ⟨rfl, rfl, trivial⟩ ?_)
   have hx := some_inj h
   subst hx
   have hmr : MS w8 [([] : List Nat), M] := hms.pick [none, some 1] _ rfl
   have hsu : ∀ x ∈ fl [([] : List Nat), M], x ∈ fl [[b4], M] := pick_sub [none, some 1] _ rfl
   have hfe : FR w.heap.size [([] : List Nat)] := hfr.pick [none] _ rfl
   exact ⟨none, 0, ([] : List Nat), rfl, hev, hmr, hfe, OwnR.nil _ _ _ _ _⟩
 refine c_skip ?_
 refine k_then ?_
 refine c_sp ?_
 refine x_u 1 [(17, .slice a_p2 (p2).length c_p2)] ?_
 obtain ⟨x9, hx, h⟩ := bind_some h
 have hpk : MS w8 ([] ++ [[b4], M]) := hms.pick [some 0, some 1] _ rfl
 have hsb0 : ∀ x ∈ fl ([] ++ [[b4], M]), x ∈ fl [[b4], M] := pick_sub [some 0, some 1] _ rfl
 have hsb : ∀ x ∈ fl ([] ++ [(fl [[b4], M])]), x ∈ fl [[b4], M] := fun x hx => hsb0 x (fl_unfold x hx)
 have hcall := inventory_copied_w a_p2 c_p2 p2 _ w8 (fl [[b4], M]) (MS.fold (P := []) hpk) (hs_p2.sub hsb) hx
 refine x_call 22 #[] #[] [.slice a_p2 (p2).length c_p2] _ rfl rfl rfl rfl hcall ?_
 rintro v w10 ⟨a0_10, c0_10, B2_10, rfl, he10, hmn10, hfn10, hf10_1⟩
 clear hcall hx
 refine inl1 ?_
 have hpk2 : MS w8 ([] ++ [[b4], M]) := hms.pick [some 0, some 1] _ rfl
 have hsb2 : ∀ x ∈ fl ([] ++ [[b4], M]), x ∈ fl [[b4], M] := pick_sub [some 0, some 1] _ rfl
 have hst0 := Stp.call (LS := [[b4], M]) (res := [B2_10]) (par := []) (R := [[b4], M]) he10 (fun b hb => hsb2 b (fl_left' (P := []) b hb)) hfn10 (NP.init _ _) (fun x hx => hsb2 x (fl_right' (P := []) x hx))
 have hsn : ∀ x ∈ fl [B2_10, [b4], M], x ∈ fl ([B2_10] ++ ([] ++ [[b4], M])) := pick_sub [some 0, some 1, some 2] _ rfl
 have hst := hst0.res hsn
 replace hs_p0 := hs_p0.step hst
 replace hs_p1 := hs_p1.step hst
 replace hs_p2 := hs_p2.step hst
 replace hb4 := he10.box hb4 ((MS.outs (P := []) hpk2 0 rfl) _ mem1)
 replace hms : MS w10 [B2_10, [b4], M] := (MS.call (P := []) (R := [[b4], M]) (res := [B2_10]) (par := []) hpk2 he10 hmn10 hfn10 (NP.init _ _)).pick [some 0, some 1, some 2] _ rfl
 have hfr2 : FR w.heap.size [B2_10, [b4]] := (FR.cons (fun b hb => Nat.le_trans hev.size (hfn10.at 0 rfl b hb)) (FR.cons (hfr.at 0 rfl) (FR.nil _)))
 replace hev := hev.ext he10
 replace hfr := hfr2
 clear hfr2
 clear hpk hsb hsb0 hpk2 hsb2 hst0 hsn hst
 refine x_u 1 [(10, .slice a0_10 (x9).length c0_10)] ?_
 refine x_ek ?_
 refine c_seq ?_
 refine c_sp ?_
 refine x_u 3 [(19, .slice a_p0 (p0).length c_p0), (20, .slice a_p1 (p1).length c_p1), (21, .slice a0_10 (x9).length c0_10)] ?_
 refine x_load (xv := Vp b4 0) (.agg #[Vi p3_0, Vi p3_1, Vi p3_2, .bool p3_3]) rfl rfl rfl (reads_boxagg 0 [Vi p3_0, Vi p3_1, Vi p3_2, .bool p3_3] tagg30 hb4 nn rfl) ?_
 obtain ⟨x12, hx, h⟩ := bind_some h
 have hpk : MS w10 ([B2_10] ++ [[b4], M]) := hms.pick [some 0, some 1, some 2] _ rfl
 have hsb0 : ∀ x ∈ fl ([B2_10] ++ [[b4], M]), x ∈ fl [B2_10, [b4], M] := pick_sub [some 0, some 1, some 2] _ rfl
 have hsb : ∀ x ∈ fl ([B2_10] ++ [(fl [[b4], M])]), x ∈ fl [B2_10, [b4], M] := fun x hx => hsb0 x (fl_unfold x hx)
 have hcall := inventory_shift_w a_p0 c_p0 p0 a_p1 c_p1 p1 a0_10 c0_10 B2_10 x9 p3_0 p3_1 p3_2 p3_3 _ w10 (fl [[b4], M]) (hpk.fold (P := [B2_10])) (hs_p0.sub hsb) (hs_p1.sub hsb) hf10_1 hx
 refine x_call 23 #[] #[] [.slice a_p0 (p0).length c_p0, .slice a_p1 (p1).length c_p1, .slice a0_10 (x9).length c0_10, .agg #[Vi p3_0, Vi p3_1, Vi p3_2, .bool p3_3]] _ rfl rfl rfl rfl hcall ?_
 rintro v w13 ⟨B0_13, rfl, he13, hp13_0, hmn13, hfn13, hnp13⟩
 clear hcall hx
 refine inl1 ?_
 have hpk2 : MS w10 ([B2_10] ++ [[b4], M]) := hms.pick [some 0, some 1, some 2] _ rfl
 have hsb2 : ∀ x ∈ fl ([B2_10] ++ [[b4], M]), x ∈ fl [B2_10, [b4], M] := pick_sub [some 0, some 1, some 2] _ rfl
 have hst0 := Stp.call (LS := [B2_10, [b4], M]) (res := []) (par := [B0_13]) (R := [[b4], M]) he13 (fun b hb => hsb2 b (fl_left' (P := [B2_10]) b hb)) hfn13 hnp13 (fun x hx => hsb2 x (fl_right' (P := [B2_10]) x hx))
 have hsn : ∀ x ∈ fl [B0_13, [b4], M], x ∈ fl ([] ++ ([B0_13] ++ [[b4], M])) := pick_sub [some 0, some 1, some 2] _ rfl
 have hst := hst0.res hsn
 replace hs_p0 := hs_p0.step hst
 replace hs_p1 := hs_p1.step hst
 replace hb4 := he13.box hb4 ((MS.outs (P := [B2_10]) hpk2 0 rfl) _ mem1)
 replace hms : MS w13 [B0_13, [b4], M] := (MS.call (P := [B2_10]) (R := [[b4], M]) (res := []) (par := [B0_13]) hpk2 he13 hmn13 hfn13 hnp13).pick [some 0, some 1, some 2] _ rfl
 have hPf : ∀ b ∈ fl [B2_10], w.heap.size ≤ b := FR.mem (ls := [B2_10]) (hfr.pick [some 0] _ rfl)
 have hfr2 : FR w.heap.size [B0_13, [b4]] := (FR.cons (fun b hb => (hnp13.at 0 rfl b hb).elim (fun h => hPf b h) (fun h => Nat.le_trans hev.size h)) (FR.cons (hfr.at 1 rfl) (FR.nil _)))
 replace hev := hev.then he13 (fun b hb => .inr (hPf b hb))
 replace hfr := hfr2
 clear hfr2
 replace hf10_1 := hp13_0
 clear hpk hsb hsb0 hpk2 hsb2 hst0 hsn hst
 have hgl := guard_l h
 replace h := guard_r h
 have hsl : (Value.slice a0_10 (x9).length c0_10) = (Value.slice a0_10 (x12.2).length c0_10) := by first | (rw [hgl]; done) | simp only [hgl]
 try rw [hsl]
 clear hsl
 refine x_u 1 [(11, Vi x12.1)] ?_
 refine x_ek ?_
 refine c_norm [(10, .slice a0_10 (x12.2).length c0_10), (11, Vi x12.1)] ⟨rfl, rfl, trivial⟩ (fun J => ?_)
 refine c_sp ?_
 refine x_u 2 [(24, Vi x12.1), (25, .bool (x12.1 != 0))] ?_
 refine x_ek ?_
 refine c_if (x12.1 != 0) rfl h (fun h => ?_) (fun h => ?_)
 · refine c_sp ?_
   refine x_u 3 [(26, Vi x12.1), (8, .slice none 0 0), (9, Vi x12.1)] ?_
   refine x_ek ?_
   refine c_ret ?_
   refine k_then_ret ?_
   refine r_ret (r_vals [.slice none 0 0, Vi x12.1] ⟨rfl, rfl, trivial⟩ ?_)
   have hx := some_inj h
   subst hx
   have hmr : MS w13 [([] : List Nat), M] := hms.pick [none, some 2] _ rfl
   have hsu : ∀ x ∈ fl [([] : List Nat), M], x ∈ fl [B0_13, [b4], M] := pick_sub [none, some 2] _ rfl
   have hfe : FR w.heap.size [([] : List Nat)] := hfr.pick [none] _ rfl
   exact ⟨none, 0, ([] : List Nat), rfl, hev, hmr, hfe, OwnR.nil _ _ _ _ _⟩
 refine c_skip ?_
 refine k_then ?_
 refine c_sp ?_
 refine x_u 3 [(27, .slice a0_10 (x12.2).length c0_10), (8, .slice a0_10 (x12.2).length c0_10), (9, Vi 0)] ?_
 refine x_ek ?_
 refine c_ret ?_
 refine r_ret (r_vals [.slice a0_10 (x12.2).length c0_10, Vi 0] ⟨rfl, rfl, trivial⟩ ?_)
 have hx := some_inj h
 subst hx
 have hmr : MS w13 [B0_13, M] := hms.pick [some 0, some 2] _ rfl
 have hsu : ∀ x ∈ fl [B0_13, M], x ∈ fl [B0_13, [b4], M] := pick_sub [some 0, some 2] _ rfl
 have hfe : FR w.heap.size [B0_13] := hfr.pick [some 0] _ rfl
 exact ⟨a0_10, c0_10, B0_13, rfl, hev, hmr, hfe, hf10_1⟩
end Go.Proofs.Ytgeceohdppecgaa
