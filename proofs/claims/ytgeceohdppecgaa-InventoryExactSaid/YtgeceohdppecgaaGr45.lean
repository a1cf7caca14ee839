
/- Walks, printed by program: each function returns what the partial function of the same name returns. Conditions: those of each theorem. -/
import Derived.Test.YtgeceohdppecgaaGT
set_option linter.unusedVariables false
set_option linter.unusedSimpArgs false
set_option maxRecDepth 4000
namespace Go.Proofs.Ytgeceohdppecgaa
open Go Go.V Go.Proofs
def r45_SameShifts_L4 (p0 : List (Int × Int × Int × Bool)) (p1 : List (Int × Int × Int × Bool)) (s : Int) : Option (Step Int (Unit ⊕ Unit)) :=
match s with
| i_s5_l4 =>
(if (decide (i_s5_l4 < ((p0).length : Int))) = true then
((idx p0 i_s5_l4).bind fun x6 =>
((idx p1 i_s5_l4).bind fun x8 =>
(if (!(x6.1 == x8.1 && (x6.2.1 == x8.2.1 && (x6.2.2.1 == x8.2.2.1 && (x6.2.2.2 == x8.2.2.2 && true))))) = true then
some (.done (.inl ()))
else
some (.next (IntKind.i64.wrap (i_s5_l4 + 1))))))
else
some (.done (.inr ())))

def r45_SameShifts (p0 : List (Int × Int × Int × Bool)) (p1 : List (Int × Int × Int × Bool)) : Option Bool :=
(if (((p0).length : Int) != ((p1).length : Int)) = true then
some false
else
((loop (r45_SameShifts_L4 p0 p1) 0).bind fun d => match d with
| (.inl _) => some false
| (.inr _) => some true))

theorem r45_SameShifts_w (a_p0 : Option Addr) (c_p0 : Nat) (p0 : List (Int × Int × Int × Bool)) (a_p1 : Option Addr) (c_p1 : Nat) (p1 : List (Int × Int × Int × Bool)) (r : Bool) (w : World) (M : List Nat) (hms : MS w [M]) (hs_p0 : SlR (eProd (eInt .i64) (eProd (eInt .i64) (eProd (eInt .i64) eBool))) w (fl [M]) a_p0 c_p0 p0) (hs_p1 : SlR (eProd (eInt .i64) (eProd (eInt .i64) (eProd (eInt .i64) eBool))) w (fl [M]) a_p1 c_p1 p1) (h : r45_SameShifts p0 p1 = some r) : CallVC Try.prog 35 [Vl a_p0 p0 c_p0, Vl a_p1 p1 c_p1] w fun v w' => v = .bool r ∧ Ev [] w w' := by
 refine calls_vc hmx Try.func35 (by kernel_rfl) rfl (rs := [.tmp 4]) rfl (by kernel_rfl) (args := [Vl a_p0 p0 c_p0, Vl a_p1 p1 c_p1]) rfl ?_
 have hev : Ev [] w w := Ev.refl _ _
 have hfr : FR w.heap.size [] := FR.nil _
 refine c_sp ?_
 refine x_u 1 [(4, .bool false)] ?_
 refine x_ek ?_
 refine c_seq ?_
 refine c_sp ?_
 refine x_u 1 [(6, Vl a_p0 p0 c_p0)] ?_
 refine x_len (vs := [Vl a_p0 p0 c_p0]) (Vi ((p0).length : Int)) rfl rfl rfl (reads_len tsl41 _ _ _ _ _) ?_
 refine x_u 1 [(8, Vl a_p1 p1 c_p1)] ?_
 refine x_len (vs := [Vl a_p1 p1 c_p1]) (Vi ((p1).length : Int)) rfl rfl rfl (reads_len tsl41 _ _ _ _ _) ?_
 refine x_u 1 [(10, .bool (((p0).length : Int) != ((p1).length : Int)))] ?_
 refine x_ek ?_
 refine c_if (((p0).length : Int) != ((p1).length : Int)) rfl h (fun h => ?_) (fun h => ?_)
 · refine c_sp ?_
   refine x_u 1 [(4, .bool false)] ?_
   refine x_ek ?_
   refine c_ret ?_
   refine k_then_ret ?_
   refine r_ret (r_vals [.bool false] ⟨rfl, trivial⟩ ?_)
   have hx := some_inj h
   subst hx
   have hmr : MS w [M] := hms.pick [some 0] _ rfl
   have hsu : ∀ x ∈ fl [M], x ∈ fl [M] := pick_sub [some 0] _ rfl
   exact ⟨rfl, hev⟩
 refine c_skip ?_
 refine k_then ?_
 refine c_seq ?_
 refine c_sp ?_
 refine x_u 1 [(5, Vi 0)] ?_
 refine x_ek ?_
 refine c_block ?_
 obtain ⟨d4, hd4, h4⟩ := bind_some h
 obtain ⟨m4, hd4⟩ := loop_some hd4
 refine c_loop (loop_rule hmx (σ := Nat × Int) (fun s => match s with | (_, i_s5_l4) => [(0, Vl a_p0 p0 c_p0), (1, Vl a_p1 p1 c_p1), (5, Vi i_s5_l4)]) (fun s w' => match s with | (m, i_s5_l4) => loopN (r45_SameShifts_L4 p0 p1) m i_s5_l4 = some d4 ∧ Ev [] w w' ∧ MS w' [M] ∧ FR w.heap.size [] ∧ SlR (eProd (eInt .i64) (eProd (eInt .i64) (eProd (eInt .i64) eBool))) w' (fl [M]) a_p0 c_p0 p0 ∧ SlR (eProd (eInt .i64) (eProd (eInt .i64) (eProd (eInt .i64) eBool))) w' (fl [M]) a_p1 c_p1 p1) (fun s => s.1) (m4, 0) ⟨rfl, rfl, rfl, trivial⟩ ⟨hd4, hev, hms, hfr, hs_p0, hs_p1⟩ ?_)
 rintro ⟨m4, i_s5_l4⟩ J wl4 ⟨hn4, hev, hms, hfr, hs_p0, hs_p1⟩
 rcases m4 with _ | m4
 · exact (loopN_zero hn4).elim
 obtain ⟨t4, h, hn4⟩ := bind_some hn4
 refine c_seq ?_
 refine c_sp ?_
 refine x_u 2 [(11, Vi i_s5_l4), (12, Vl a_p0 p0 c_p0)] ?_
 refine x_len (vs := [Vl a_p0 p0 c_p0]) (Vi ((p0).length : Int)) rfl rfl rfl (reads_len tsl41 _ _ _ _ _) ?_
 refine x_u 1 [(14, .bool (decide (i_s5_l4 < ((p0).length : Int))))] ?_
 refine x_ek ?_
 refine c_norm [(0, Vl a_p0 p0 c_p0), (1, Vl a_p1 p1 c_p1), (5, Vi i_s5_l4), (14, .bool (decide (i_s5_l4 < ((p0).length : Int))))] ⟨rfl, rfl, rfl, rfl, trivial⟩ (fun J => ?_)
 refine c_if (decide (i_s5_l4 < ((p0).length : Int))) rfl h (fun h => ?_) (fun h => ?_)
 · refine c_skip ?_
   refine k_then ?_
   refine c_seq ?_
   refine c_block ?_
   refine c_seq ?_
   refine c_drawn [] [(0, false), (1, false), (2, false), (3, false), (4, false), (5, false), (6, false), (7, false), (8, false)] _ (by kernel_rfl) rfl ?_
   have hst := Stp.ext (ls := [M]) (Ev.drew wl4)
   replace hs_p0 := hs_p0.step hst
   replace hs_p1 := hs_p1.step hst
   replace hms := hms.ev (Ev.drew wl4)
   replace hev := hev.ext (Ev.drew wl4)
   refine x_u 2 [(17, Vl a_p0 p0 c_p0), (18, Vi i_s5_l4)] ?_
   obtain ⟨x6, hx6, h⟩ := bind_some h
   obtain ⟨ad6, cs6, hr6, hc6, hR⟩ := reads_index (Mo := []) tsl41 hs_p0 hx6
   obtain ⟨_, _, rfl, rfl, ⟨_, _, rfl, rfl, ⟨_, _, rfl, rfl, rfl⟩⟩⟩ := hR
   refine x_indexAddr (xv := Vl a_p0 p0 c_p0) (yv := Vi i_s5_l4) (.pointer (some ad6)) rfl rfl rfl rfl hr6 ?_
   refine x_load (xv := .pointer (some ad6)) (.agg #[Vi x6.1, Vi x6.2.1, Vi x6.2.2.1, .bool x6.2.2.2]) rfl rfl rfl (reads_agg tagg30 hc6 (fun _ h => by cases h)) ?_
   refine x_u 2 [(21, Vl a_p1 p1 c_p1), (22, Vi i_s5_l4)] ?_
   obtain ⟨x8, hx8, h⟩ := bind_some h
   obtain ⟨ad8, cs8, hr8, hc8, hR⟩ := reads_index (Mo := []) tsl41 hs_p1 hx8
   obtain ⟨_, _, rfl, rfl, ⟨_, _, rfl, rfl, ⟨_, _, rfl, rfl, rfl⟩⟩⟩ := hR
   refine x_indexAddr (xv := Vl a_p1 p1 c_p1) (yv := Vi i_s5_l4) (.pointer (some ad8)) rfl rfl rfl rfl hr8 ?_
   refine x_load (xv := .pointer (some ad8)) (.agg #[Vi x8.1, Vi x8.2.1, Vi x8.2.2.1, .bool x8.2.2.2]) rfl rfl rfl (reads_agg tagg30 hc8 (fun _ h => by cases h)) ?_
   refine x_binop (.bool (!(x6.1 == x8.1 && (x6.2.1 == x8.2.1 && (x6.2.2.1 == x8.2.2.1 && (x6.2.2.2 == x8.2.2.2 && true)))))) (.agg #[Vi x6.1, Vi x6.2.1, Vi x6.2.2.1, .bool x6.2.2.2]) (.agg #[Vi x8.1, Vi x8.2.1, Vi x8.2.2.1, .bool x8.2.2.2]) rfl rfl rfl rfl (bin_aggne Try.underlying30 (by kernel_rfl) (by kernel_rfl) (fun _ => (eqF_cell (by kernel_rfl) (fun w => (tcell3 w).1) rfl rfl (fun w => eq_int tint3 _ _ w) (eqF_cell (by kernel_rfl) (fun w => (tcell3 w).1) rfl rfl (fun w => eq_int tint3 _ _ w) (eqF_cell (by kernel_rfl) (fun w => (tcell3 w).1) rfl rfl (fun w => eq_int tint3 _ _ w) (eqF_cell (by kernel_rfl) (fun w => (tcell4 w).1) rfl rfl (fun w => eq_bool tbool4 _ _ w) eqF_nil)))))) ?_
   refine x_ek ?_
   refine c_if (!(x6.1 == x8.1 && (x6.2.1 == x8.2.1 && (x6.2.2.1 == x8.2.2.1 && (x6.2.2.2 == x8.2.2.2 && true))))) rfl h (fun h => ?_) (fun h => ?_)
   · refine c_sp ?_
     refine x_u 1 [(4, .bool false)] ?_
     refine x_ek ?_
     refine c_ret ?_
     refine k_block_ret ?_
     refine k_then_ret ?_
     have hx := some_inj h
     subst hx
     have hy := some_inj hn4
     subst hy
     replace h := h4
     refine k_then_ret ?_
     refine k_block_ret ?_
     refine k_then_ret ?_
     refine r_ret (r_vals [.bool false] ⟨rfl, trivial⟩ ?_)
     have hx := some_inj h
     subst hx
     have hmr : MS (wl4).drew [M] := hms.pick [some 0] _ rfl
     have hsu : ∀ x ∈ fl [M], x ∈ fl [M] := pick_sub [some 0] _ rfl
     exact ⟨rfl, hev⟩
   refine c_skip ?_
   refine k_block ?_
   refine k_then ?_
   refine c_plain ?_
   refine x_u 3 [(15, Vi i_s5_l4), (16, Vi (IntKind.i64.wrap (i_s5_l4 + 1))), (5, Vi (IntKind.i64.wrap (i_s5_l4 + 1)))] ?_
   refine x_end rfl ?_
   have hx := some_inj h
   subst hx
   exact k_then ⟨(m4, IntKind.i64.wrap (i_s5_l4 + 1)), ⟨rfl, rfl, rfl, trivial⟩, ⟨hn4, hev, hms, hfr, hs_p0, hs_p1⟩, Nat.lt_succ_self _⟩
 refine c_exit ?_
 refine k_then_exit ?_
 have hx := some_inj h
 subst hx
 have hy := some_inj hn4
 subst hy
 replace h := h4
 refine k_then_exit ?_
 refine k_block_in ?_
 refine k_then ?_
 refine c_norm [] trivial (fun J => ?_)
 refine c_sp ?_
 refine x_u 1 [(4, .bool true)] ?_
 refine x_ek ?_
 refine c_ret ?_
 refine r_ret (r_vals [.bool true] ⟨rfl, trivial⟩ ?_)
 have hx := some_inj h
 subst hx
 have hmr : MS wl4 [M] := hms.pick [some 0] _ rfl
 have hsu : ∀ x ∈ fl [M], x ∈ fl [M] := pick_sub [some 0] _ rfl
 exact ⟨rfl, hev⟩
end Go.Proofs.Ytgeceohdppecgaa
