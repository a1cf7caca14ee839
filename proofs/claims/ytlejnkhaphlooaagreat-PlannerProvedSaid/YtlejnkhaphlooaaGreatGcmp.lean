
/- Walks, printed by program: each function returns what the partial function of the same name returns. Conditions: those of each theorem. -/
import Derived.Test.YtlejnkhaphlooaaGreatGT
set_option linter.unusedVariables false
set_option linter.unusedSimpArgs false
set_option maxRecDepth 4000
namespace Go.Proofs.YtlejnkhaphlooaaGreat
open Go Go.V Go.Proofs
def cmp_Or_int__L2 (p0 : List Int) (s : Int) : Option (Step Int (Int ⊕ Unit)) :=
match s with
| t8__s8_l2 =>
(if (decide (t8__s8_l2 < ((p0).length : Int))) = true then
((idx p0 t8__s8_l2).bind fun x4 =>
(if (x4 != 0) = true then
some (.done (.inl x4))
else
some (.next (IntKind.i64.wrap (t8__s8_l2 + 1)))))
else
some (.done (.inr ())))
def cmp_Or_int_ (p0 : List Int) : Option Int :=
((loop (cmp_Or_int__L2 p0) 0).bind fun d => match d with
| (.inl t2__s2_x200) => some t2__s2_x200
| (.inr _) => some 0)
theorem cmp_Or_int__w (a_p0 : Option Addr) (c_p0 : Nat) (p0 : List Int) (r : Int) (w : World) (M : List Nat) (hms : MS w [M]) (hs_p0 : SlR (eInt .i64) w (fl [M]) a_p0 c_p0 p0) (h : cmp_Or_int_ p0 = some r) : CallVC Tryz.prog 50 [Vl a_p0 p0 c_p0] w fun v w' => v = Vi r ∧ Ev [] w w' := by
 refine calls_vc hmx Tryz.func50 (by kernel_rfl) rfl (rs := [.tmp 2]) rfl (by kernel_rfl) (args := [Vl a_p0 p0 c_p0]) rfl ?_
 have hev : Ev [] w w := Ev.refl _ _
 have hfr : FR w.heap.size [] := FR.nil _
 refine c_sp (x_u 1 [(2, Vi 0)] (x_ek (c_sp (x_u 1 [(3, Vi 0)] (x_ek ?_)))))
 refine c_seq (c_sp (x_u 1 [(6, Vl a_p0 p0 c_p0)] (x_len (vs := [Vl a_p0 p0 c_p0]) (Vi ((p0).length : Int)) rfl rfl rfl (reads_len tsl22 _ _ _ _ _) (x_u 1 [(8, Vi 0)] (x_ek ?_)))))
 refine c_block ?_
 obtain ⟨d2, hd2, h2⟩ := bind_some h
 obtain ⟨m2, hd2⟩ := loop_some hd2
 refine c_loop (loop_rule hmx (σ := Nat × Int) (fun s => match s with | (_, t8__s8_l2) => [(3, Vi 0), (6, Vl a_p0 p0 c_p0), (7, Vi ((p0).length : Int)), (8, Vi t8__s8_l2)]) (fun s w' => match s with | (m, t8__s8_l2) => loopN (cmp_Or_int__L2 p0) m t8__s8_l2 = some d2 ∧ Ev [] w w' ∧ MS w' [M] ∧ FR w.heap.size [] ∧ SlR (eInt .i64) w' (fl [M]) a_p0 c_p0 p0) (fun s => s.1) (m2, 0) ⟨rfl, rfl, rfl, rfl, trivial⟩ ⟨hd2, hev, hms, hfr, hs_p0⟩ ?_)
 rintro ⟨m2, t8__s8_l2⟩ J wl2 ⟨hn2, hev, hms, hfr, hs_p0⟩
 rcases m2 with _ | m2
 · exact (loopN_zero hn2).elim
 obtain ⟨t2, h, hn2⟩ := bind_some hn2
 refine c_sp (x_u 1 [(9, .bool (decide (t8__s8_l2 < ((p0).length : Int))))] (x_ek (c_nm [(3, Vi 0), (6, Vl a_p0 p0 c_p0), (7, Vi ((p0).length : Int)), (8, Vi t8__s8_l2), (9, .bool (decide (t8__s8_l2 < ((p0).length : Int))))] (fun J => ?_))))
 refine c_seq (c_if (decide (t8__s8_l2 < ((p0).length : Int))) rfl h (fun h => ?_) (fun h => ?_))
 · refine c_skip (k_then (c_seq (c_block (c_sp ?_))))
   obtain ⟨x4, hx4, h⟩ := bind_some h
   obtain ⟨ad4, cs4, hr4, hc4, hR⟩ := reads_index (Mo := []) tsl22 hs_p0 hx4
   obtain rfl := hR
   refine x_indexAddr (xv := Vl a_p0 p0 c_p0) (yv := Vi t8__s8_l2) (.pointer (some ad4)) rfl rfl rfl rfl hr4 (x_load (xv := .pointer (some ad4)) (Vi x4) rfl rfl rfl (reads_cell0 tcell3 hc4 (fun _ h => by cases h)) ?_)
   refine x_u 1 [(5, Vi x4)] (x_ek (c_sp (x_u 3 [(12, Vi x4), (13, Vi 0), (14, .bool (x4 != 0))] (x_ek (c_if (x4 != 0) rfl h (fun h => ?_) (fun h => ?_))))))
   · refine c_sp (x_u 2 [(15, Vi x4), (2, Vi x4)] (x_ek (c_ret (k_block_ret (k_then_ret ?_)))))
     obtain rfl := some_inj h
     have hy := some_inj hn2
     subst hy
     replace h := h2
     refine k_then_ret (k_block_ret (k_then_ret (r_ret (r_vals [Vi x4] ⟨rfl, trivial⟩ ?_))))
     obtain rfl := some_inj h
     exact ⟨rfl, hev⟩
   refine c_skip (k_block (k_then (c_plain (x_u 2 [(16, Vi (IntKind.i64.wrap (t8__s8_l2 + 1))), (8, Vi (IntKind.i64.wrap (t8__s8_l2 + 1)))] (x_end rfl ?_)))))
   obtain rfl := some_inj h
   exact k_then ⟨(m2, IntKind.i64.wrap (t8__s8_l2 + 1)), ⟨rfl, rfl, rfl, rfl, trivial⟩, ⟨hn2, hev, hms, hfr, hs_p0⟩, Nat.lt_succ_self _⟩
 refine c_exit (k_then_exit ?_)
 obtain rfl := some_inj h
 have hy := some_inj hn2
 subst hy
 replace h := h2
 refine k_then_exit (k_block_in (k_then (c_nm [(3, Vi 0)] (fun J => ?_))))
 refine c_sp (x_u 2 [(17, Vi 0), (2, Vi 0)] (x_ek (c_ret (r_ret (r_vals [Vi 0] ⟨rfl, trivial⟩ ?_)))))
 obtain rfl := some_inj h
 exact ⟨rfl, hev⟩
end Go.Proofs.YtlejnkhaphlooaaGreat
