
/- Walks, printed by program: each function returns what the partial function of the same name returns. Conditions: those of each theorem. -/
import Derived.Test.YtlejnkhaphlooaaGreatGT
set_option linter.unusedVariables false
set_option linter.unusedSimpArgs false
set_option maxRecDepth 4000
namespace Go.Proofs.YtlejnkhaphlooaaGreat
open Go Go.V Go.Proofs Go.IntKind
def cmp_Or_int__L2 (b : List Int) (d : Int) : Option (Step Int (Int ⊕ Unit)) :=
match d with
| a =>
(if (decide (a < ((b).length : Int))) = true then
((idx b a).bind fun c =>
(if (c != 0) = true then
some (.done (.inl c))
else
some (.next (i64.wrap (a + 1)))))
else
some (.done (.inr ())))
def cmp_Or_int_ (b : List Int) : Option Int :=
((loop (cmp_Or_int__L2 b) 0).bind fun a => match a with
| (.inl c) => some c
| (.inr _) => some 0)
theorem cmp_Or_int__w (d : Option Addr) (e : Nat) (b : List Int) (v : Int) (f : World) (m : List Nat) (q : MS f [m]) (n : SlR (eInt .i64) f (fl [m]) d e b) (a : cmp_Or_int_ b = some v) : CallVC Tryz.prog 50 [Vl d b e] f fun C l => C = Vi v ∧ Ev [] f l := by
 refine calls_vc hmx Tryz.func50 (by kernel_rfl) R (rs := [.tmp 2]) R (by kernel_rfl) (args := [Vl d b e]) R ?_
 have i : Ev [] f f := Ev.refl _ _
 have p : FR f.heap.size [] := FR.nil _
 refine c_sp (x_u 1 [(2, Vi 0)] (x_ek (c_sp (x_u 1 [(3, Vi 0)] (x_ek (c_seq (c_sp (x_u 1 [(6, Vl d b e)] (x_len (vs := [Vl d b e]) (Vi ((b).length : Int)) R R R (reads_len tsl22 _ _ _ _ _) ?_)))))))))
 refine x_u 1 [(8, Vi 0)] (x_ek (c_block ?_))
 obtain ⟨w, o, u⟩ := bind_some a
 obtain ⟨j, o⟩ := loop_some o
 refine c_loop (loop_rule hmx (σ := Nat × Int) (fun k => match k with | (_, c) => [(3, Vi 0), (6, Vl d b e), (7, Vi ((b).length : Int)), (8, Vi c)]) (fun k l => match k with | (B, c) => loopN (cmp_Or_int__L2 b) B c = some w ∧ Ev [] f l ∧ MS l [m] ∧ FR f.heap.size [] ∧ SlR (eInt .i64) l (fl [m]) d e b) (fun k => k.1) (j, 0) ⟨R, R, R, R, trivial⟩ ⟨o, i, q, p, n⟩ ?_)
 rintro ⟨j, c⟩ s F ⟨h, i, q, p, n⟩
 rcases j with _ | j
 · exact (loopN_zero h).elim
 obtain ⟨E, a, h⟩ := bind_some h
 refine c_sp (x_u 1 [(9, .bool (decide (c < ((b).length : Int))))] (x_ek (c_nm [(3, Vi 0), (6, Vl d b e), (7, Vi ((b).length : Int)), (8, Vi c), (9, .bool (decide (c < ((b).length : Int))))] (fun s => ?_))))
 refine c_seq (c_if (decide (c < ((b).length : Int))) R a (fun a => ?_) (fun a => ?_))
 · refine c_skip (k_then (c_seq (c_block (c_sp ?_))))
   obtain ⟨g, A, a⟩ := bind_some a
   obtain ⟨t, D, z, y, x⟩ := reads_index (Mo := []) tsl22 n A
   obtain rfl := x
   refine x_indexAddr (xv := Vl d b e) (yv := Vi c) (.pointer (some t)) R R R R z (x_load (xv := .pointer (some t)) (Vi g) R R R (reads_cell0 tcell3 y (fun _ a => by cases a)) ?_)
   refine x_u 1 [(5, Vi g)] (x_ek (c_sp (x_u 3 [(12, Vi g), (13, Vi 0), (14, .bool (g != 0))] (x_ek (c_if (g != 0) R a (fun a => ?_) (fun a => ?_))))))
   · refine c_sp (x_u 2 [(15, Vi g), (2, Vi g)] (x_ek (c_ret (k_block_ret (k_then_ret ?_)))))
     obtain rfl := some_inj a
     have r := some_inj h
     subst r
     replace a := u
     refine k_then_ret (k_block_ret (k_then_ret (r_ret (r_vals [Vi g] ⟨R, trivial⟩ ?_))))
     obtain rfl := some_inj a
     exact ⟨R, i⟩
   refine c_skip (k_block (k_then (c_plain (x_u 2 [(16, Vi (i64.wrap (c + 1))), (8, Vi (i64.wrap (c + 1)))] (x_end R ?_)))))
   obtain rfl := some_inj a
   exact k_then ⟨(j, i64.wrap (c + 1)), ⟨R, R, R, R, trivial⟩, ⟨h, i, q, p, n⟩, Nat.lt_succ_self _⟩
 refine c_exit (k_then_exit ?_)
 obtain rfl := some_inj a
 have r := some_inj h
 subst r
 replace a := u
 refine k_then_exit (k_block_in (k_then (c_nm [(3, Vi 0)] (fun s => ?_))))
 refine c_sp (x_u 2 [(17, Vi 0), (2, Vi 0)] (x_ek (c_ret (r_ret (r_vals [Vi 0] ⟨R, trivial⟩ ?_)))))
 obtain rfl := some_inj a
 exact ⟨R, i⟩
end Go.Proofs.YtlejnkhaphlooaaGreat
