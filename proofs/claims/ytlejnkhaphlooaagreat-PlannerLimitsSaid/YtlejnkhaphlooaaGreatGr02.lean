
/- Walks, printed by program: each function returns what the partial function of the same name returns. Conditions: those of each theorem. -/
import Derived.Test.YtlejnkhaphlooaaGreatGT
set_option linter.unusedVariables false
set_option linter.unusedSimpArgs false
set_option maxRecDepth 4000
namespace Go.Proofs.YtlejnkhaphlooaaGreat
open Go Go.V Go.Proofs Go.IntKind
def r02_digits_L2 (b : List UInt8) (c : Int) (d : Int) : Option (Step Int (Unit ⊕ Unit)) :=
match d with
| a =>
(if (decide (a < c)) = true then
((sAt b a).bind fun e =>
(if (decide (e < 48)) = true then
some (.done (.inl ()))
else
((sAt b a).bind fun f =>
(if (decide (f > 57)) = true then
some (.done (.inl ()))
else
some (.next (i64.wrap (a + 1)))))))
else
some (.done (.inr ())))
def r02_digits (a : List UInt8) (b : Int) : Option Bool :=
(if ((a.length : Int) != b) = true then
some false
else
((loop (r02_digits_L2 a b) 0).bind fun c => match c with
| (.inl _) => some false
| (.inr _) => some true))
theorem r02_digits_w (c : List UInt8) (d : Int) (t : Bool) (e : World) (a : r02_digits c d = some t) : CallVC Tryz.prog 120 [Vs c, Vi d] e fun z k => z = .bool t ∧ Ev [] e k := by
 refine calls_vc hmx Tryz.func120 (by kernel_rfl) R (rs := [.tmp 4]) R (by kernel_rfl) (args := [Vs c, Vi d]) R ?_
 have f : Ev [] e e := Ev.refl _ _
 have r : MS e [[]] := ⟨List.pairwise_singleton _ _, fun B s A v => by simp only [List.mem_singleton] at s; subst s; cases v⟩
 have q : FR e.heap.size [] := FR.nil _
 refine c_sp (x_u 1 [(4, .bool false)] (x_ek (c_seq (c_sp (x_u 1 [(6, Vs c)] (x_len (vs := [Vs c]) (Vi (c.length : Int)) R R R (reads_slen tstr9 _) (x_u 2 [(8, Vi d), (9, .bool ((c.length : Int) != d))] (x_ek (c_if ((c.length : Int) != d) R a (fun a => ?_) (fun a => ?_))))))))))
 · refine c_sp (x_u 1 [(4, .bool false)] (x_ek (c_ret (k_then_ret (r_ret (r_vals [.bool false] ⟨R, trivial⟩ ?_))))))
   obtain rfl := some_inj a
   exact ⟨R, f⟩
 refine c_skip (k_then (c_seq (c_sp (x_u 1 [(5, Vi 0)] (x_ek (c_block ?_))))))
 obtain ⟨u, p, o⟩ := bind_some a
 obtain ⟨i, p⟩ := loop_some p
 refine c_loop (loop_rule hmx (σ := Nat × Int) (fun j => match j with | (_, b) => [(0, Vs c), (1, Vi d), (5, Vi b)]) (fun j k => match j with | (y, b) => loopN (r02_digits_L2 c d) y b = some u ∧ Ev [] e k ∧ MS k [[]] ∧ FR e.heap.size []) (fun j => j.1) (i, 0) ⟨R, R, R, trivial⟩ ⟨p, f, r, q⟩ ?_)
 rintro ⟨i, b⟩ n D ⟨g, f, r, q⟩
 rcases i with _ | i
 · exact (loopN_zero g).elim
 obtain ⟨C, a, g⟩ := bind_some g
 refine c_seq (c_sp (x_u 3 [(10, Vi b), (11, Vi d), (12, .bool (decide (b < d)))] (x_ek (c_nm [(0, Vs c), (1, Vi d), (5, Vi b), (12, .bool (decide (b < d)))] (fun n => ?_)))))
 refine c_if (decide (b < d)) R a (fun a => ?_) (fun a => ?_)
 · refine c_skip (k_then (c_seq (c_block (c_sp (x_u 2 [(15, Vs c), (16, Vi b)] ?_)))))
   obtain ⟨l, w, a⟩ := bind_some a
   refine x_index (xv := Vs c) (yv := Vi b) (.int .u8 l) R R R R (reads_sindex tstr9 w) (x_u 2 [(18, .bool (decide (l < 48))), (19, .bool (decide (l < 48)))] (x_if 19 (decide (l < 48)) R a (fun a => ?_) (fun a => ?_)))
   · refine x_u 5 [(20, undef), (21, undef), (22, undef), (23, undef), (24, .bool true)] (x_ek (c_true R (c_sp (x_u 1 [(4, .bool false)] (x_ek (c_ret (k_block_ret (k_then_ret ?_))))))))
     obtain rfl := some_inj a
     have h := some_inj g
     subst h
     replace a := o
     refine k_then_ret (k_block_ret (k_then_ret (r_ret (r_vals [.bool false] ⟨R, trivial⟩ ?_))))
     obtain rfl := some_inj a
     exact ⟨R, f⟩
   refine x_u 2 [(20, Vs c), (21, Vi b)] ?_
   obtain ⟨m, x, a⟩ := bind_some a
   refine x_index (xv := Vs c) (yv := Vi b) (.int .u8 m) R R R R (reads_sindex tstr9 x) (x_u 2 [(23, .bool (decide (m > 57))), (24, .bool (decide (m > 57)))] (x_ek (c_if (decide (m > 57)) R a (fun a => ?_) (fun a => ?_))))
   · refine c_sp (x_u 1 [(4, .bool false)] (x_ek (c_nm [(4, .bool false)] (fun n => ?_))))
     refine c_ret (k_block_ret (k_then_ret ?_))
     obtain rfl := some_inj a
     have h := some_inj g
     subst h
     replace a := o
     refine k_then_ret (k_block_ret (k_then_ret (r_ret (r_vals [.bool false] ⟨R, trivial⟩ ?_))))
     obtain rfl := some_inj a
     exact ⟨R, f⟩
   refine c_skip (k_block (k_then (c_plain (x_u 3 [(13, Vi b), (14, Vi (i64.wrap (b + 1))), (5, Vi (i64.wrap (b + 1)))] (x_end R ?_)))))
   obtain rfl := some_inj a
   exact k_then ⟨(i, i64.wrap (b + 1)), ⟨R, R, R, trivial⟩, ⟨g, f, r, q⟩, Nat.lt_succ_self _⟩
 refine c_exit (k_then_exit ?_)
 obtain rfl := some_inj a
 have h := some_inj g
 subst h
 replace a := o
 refine k_then_exit (k_block_in (k_then (c_norm [] trivial (fun n => ?_))))
 refine c_sp (x_u 1 [(4, .bool true)] (x_ek (c_ret (r_ret (r_vals [.bool true] ⟨R, trivial⟩ ?_)))))
 obtain rfl := some_inj a
 exact ⟨R, f⟩
def r02_sum_L1 (d : List UInt8) (e : Int) (f : Int × Int) : Option (Step (Int × Int) Int) :=
match f with
| (b, a) =>
(if (decide (a < e)) = true then
((sAt d a).bind fun c =>
(if ((Int.tmod a 2) == 0) = true then
(if (decide ((i64.wrap ((i64.wrap (u8.wrap (c - 48))) * 2)) > 9)) = true then
some (.next (i64.wrap (b + (i64.wrap ((i64.wrap ((i64.wrap (u8.wrap (c - 48))) * 2)) - 9))), i64.wrap (a + 1)))
else
some (.next (i64.wrap (b + (i64.wrap ((i64.wrap (u8.wrap (c - 48))) * 2))), i64.wrap (a + 1))))
else
some (.next (i64.wrap (b + (i64.wrap (u8.wrap (c - 48)))), i64.wrap (a + 1)))))
else
some (.done b))
def r02_sum (b : List UInt8) (c : Int) : Option Int :=
((loop (r02_sum_L1 b c) (0, 0)).bind fun a => match a with
| d => some d)
theorem r02_sum_w (f : List UInt8) (e : Int) (r : Int) (g : World) (d : r02_sum f e = some r) : CallVC Tryz.prog 121 [Vs f, Vi e] g fun y o => y = Vi r ∧ Ev [] g o := by
 refine calls_vc hmx Tryz.func121 (by kernel_rfl) R (rs := [.tmp 4]) R (by kernel_rfl) (args := [Vs f, Vi e]) R ?_
 have j : Ev [] g g := Ev.refl _ _
 have l : MS g [[]] := ⟨List.pairwise_singleton _ _, fun A q z u => by simp only [List.mem_singleton] at q; subst q; cases u⟩
 have k : FR g.heap.size [] := FR.nil _
 refine c_sp (x_u 1 [(4, Vi 0)] (x_ek (c_sp (x_u 1 [(5, Vi 0)] (x_ek (c_seq (c_sp (x_u 1 [(6, Vi 0)] (x_ek ?_)))))))))
 refine c_block ?_
 obtain ⟨s, p, t⟩ := bind_some d
 obtain ⟨i, p⟩ := loop_some p
 refine c_loop (loop_rule hmx (σ := Nat × Int × Int) (fun m => match m with | (_, c, a) => [(0, Vs f), (1, Vi e), (5, Vi c), (6, Vi a)]) (fun m o => match m with | (x, c, a) => loopN (r02_sum_L1 f e) x (c, a) = some s ∧ Ev [] g o ∧ MS o [[]] ∧ FR g.heap.size []) (fun m => m.1) (i, 0, 0) ⟨R, R, R, R, trivial⟩ ⟨p, j, l, k⟩ ?_)
 rintro ⟨i, c, a⟩ n C ⟨h, j, l, k⟩
 rcases i with _ | i
 · exact (loopN_zero h).elim
 obtain ⟨B, d, h⟩ := bind_some h
 refine c_seq (c_sp (x_u 3 [(8, Vi a), (9, Vi e), (10, .bool (decide (a < e)))] (x_ek (c_nm [(0, Vs f), (1, Vi e), (5, Vi c), (6, Vi a), (10, .bool (decide (a < e)))] (fun n => ?_)))))
 refine c_if (decide (a < e)) R d (fun d => ?_) (fun d => ?_)
 · refine c_skip (k_then (c_seq (c_block (c_sp (x_u 2 [(13, Vs f), (14, Vi a)] ?_)))))
   obtain ⟨b, v, d⟩ := bind_some d
   refine x_index (xv := Vs f) (yv := Vi a) (.int .u8 b) R R R R (reads_sindex tstr9 v) (x_u 1 [(16, .int .u8 (u8.wrap (b - 48)))] (x_convert (Vi (i64.wrap (u8.wrap (b - 48)))) _ R R R (tcv5_3 (u8.wrap (b - 48)) _) (inl1 (x_u 1 [(7, Vi (i64.wrap (u8.wrap (b - 48))))] (x_ek (c_seq (c_sp (x_u 3 [(18, Vi a), (19, Vi (Int.tmod a 2)), (20, .bool ((Int.tmod a 2) == 0))] (x_ek ?_)))))))))
   refine c_if ((Int.tmod a 2) == 0) R d (fun d => ?_) (fun d => ?_)
   · refine c_sp (x_u 3 [(21, Vi (i64.wrap (u8.wrap (b - 48)))), (22, Vi (i64.wrap ((i64.wrap (u8.wrap (b - 48))) * 2))), (7, Vi (i64.wrap ((i64.wrap (u8.wrap (b - 48))) * 2)))] (x_ek (c_nm [(0, Vs f), (1, Vi e), (5, Vi c), (6, Vi a), (7, Vi (i64.wrap ((i64.wrap (u8.wrap (b - 48))) * 2)))] (fun n => ?_))))
     refine c_sp (x_u 2 [(23, Vi (i64.wrap ((i64.wrap (u8.wrap (b - 48))) * 2))), (24, .bool (decide ((i64.wrap ((i64.wrap (u8.wrap (b - 48))) * 2)) > 9)))] (x_ek (c_if (decide ((i64.wrap ((i64.wrap (u8.wrap (b - 48))) * 2)) > 9)) R d (fun d => ?_) (fun d => ?_))))
     · refine c_plain (x_u 3 [(25, Vi (i64.wrap ((i64.wrap (u8.wrap (b - 48))) * 2))), (26, Vi (i64.wrap ((i64.wrap ((i64.wrap (u8.wrap (b - 48))) * 2)) - 9))), (7, Vi (i64.wrap ((i64.wrap ((i64.wrap (u8.wrap (b - 48))) * 2)) - 9)))] (x_ek (c_plain (x_u 4 [(27, Vi c), (28, Vi (i64.wrap ((i64.wrap ((i64.wrap (u8.wrap (b - 48))) * 2)) - 9))), (29, Vi (i64.wrap (c + (i64.wrap ((i64.wrap ((i64.wrap (u8.wrap (b - 48))) * 2)) - 9))))), (5, Vi (i64.wrap (c + (i64.wrap ((i64.wrap ((i64.wrap (u8.wrap (b - 48))) * 2)) - 9)))))] (x_end R (k_block (k_then (c_plain (x_u 3 [(11, Vi a), (12, Vi (i64.wrap (a + 1))), (6, Vi (i64.wrap (a + 1)))] ?_)))))))))
       refine x_end R ?_
       obtain rfl := some_inj d
       exact k_then ⟨(i, i64.wrap (c + (i64.wrap ((i64.wrap ((i64.wrap (u8.wrap (b - 48))) * 2)) - 9))), i64.wrap (a + 1)), ⟨R, R, R, R, trivial⟩, ⟨h, j, l, k⟩, Nat.lt_succ_self _⟩
     refine c_skip (k_then (c_plain (x_u 4 [(27, Vi c), (28, Vi (i64.wrap ((i64.wrap (u8.wrap (b - 48))) * 2))), (29, Vi (i64.wrap (c + (i64.wrap ((i64.wrap (u8.wrap (b - 48))) * 2))))), (5, Vi (i64.wrap (c + (i64.wrap ((i64.wrap (u8.wrap (b - 48))) * 2)))))] (x_end R (k_block (k_then (c_plain (x_u 3 [(11, Vi a), (12, Vi (i64.wrap (a + 1))), (6, Vi (i64.wrap (a + 1)))] (x_end R ?_)))))))))
     obtain rfl := some_inj d
     exact k_then ⟨(i, i64.wrap (c + (i64.wrap ((i64.wrap (u8.wrap (b - 48))) * 2))), i64.wrap (a + 1)), ⟨R, R, R, R, trivial⟩, ⟨h, j, l, k⟩, Nat.lt_succ_self _⟩
   refine c_skip (k_then (c_plain (x_u 4 [(27, Vi c), (28, Vi (i64.wrap (u8.wrap (b - 48)))), (29, Vi (i64.wrap (c + (i64.wrap (u8.wrap (b - 48)))))), (5, Vi (i64.wrap (c + (i64.wrap (u8.wrap (b - 48))))))] (x_end R (k_block (k_then (c_nm [(0, Vs f), (1, Vi e), (5, Vi (i64.wrap (c + (i64.wrap (u8.wrap (b - 48)))))), (6, Vi a)] (fun n => ?_))))))))
   refine c_plain (x_u 3 [(11, Vi a), (12, Vi (i64.wrap (a + 1))), (6, Vi (i64.wrap (a + 1)))] (x_end R ?_))
   obtain rfl := some_inj d
   exact k_then ⟨(i, i64.wrap (c + (i64.wrap (u8.wrap (b - 48)))), i64.wrap (a + 1)), ⟨R, R, R, R, trivial⟩, ⟨h, j, l, k⟩, Nat.lt_succ_self _⟩
 refine c_exit (k_then_exit ?_)
 obtain rfl := some_inj d
 have w := some_inj h
 subst w
 replace d := t
 refine k_then_exit (k_block_in (k_then (c_nm [(5, Vi c)] (fun n => ?_))))
 refine c_sp (x_u 2 [(30, Vi c), (4, Vi c)] (x_ek (c_ret (r_ret (r_vals [Vi c] ⟨R, trivial⟩ ?_)))))
 obtain rfl := some_inj d
 exact ⟨R, j⟩
def r02_Digit (a : List UInt8) : Option (Int × Int) :=
((r02_digits a 11).bind fun b =>
(if (!b) = true then
some (0, 11)
else
((r02_sum a 11).bind fun c =>
some (Int.tmod (i64.wrap (10 - (Int.tmod c 10))) 10, 0))))
theorem r02_Digit_w (b : List UInt8) (h : Int × Int) (d : World) (a : r02_Digit b = some h) : CallVC Tryz.prog 90 [Vs b] d fun i o => i = .tuple #[Vi h.1, Vi h.2] ∧ Ev [] d o := by
 refine calls_vc hmx Tryz.func90 (by kernel_rfl) R (rs := [.tmp 2, .tmp 3]) R (by kernel_rfl) (args := [Vs b]) R ?_
 have c : Ev [] d d := Ev.refl _ _
 have r : MS d [[]] := ⟨List.pairwise_singleton _ _, fun s j q l => by simp only [List.mem_singleton] at j; subst j; cases l⟩
 refine c_sp (x_u 2 [(2, Vi 0), (3, Vi 0)] (x_ek (c_seq (c_sp (x_u 1 [(4, Vs b)] ?_)))))
 obtain ⟨k, f, a⟩ := bind_some a
 have e := r02_digits_w b 11 _ d f
 refine x_call 120 #[] #[] [Vs b, Vi 11] _ R R R R e ?_
 rintro i p ⟨rfl, m⟩
 clear e f
 refine inl1 ?_
 replace c := c.ext m
 refine x_u 1 [(6, .bool (!k))] (x_ek (c_if (!k) R a (fun a => ?_) (fun a => ?_)))
 · refine c_sp (x_u 2 [(2, Vi 0), (3, Vi 11)] (x_ek (c_ret (k_then_ret (r_ret (r_vals [Vi 0, Vi 11] ⟨R, R, trivial⟩ ?_))))))
   obtain rfl := some_inj a
   exact ⟨R, c⟩
 refine c_skip (k_then (c_sp (x_u 1 [(7, Vs b)] ?_)))
 obtain ⟨g, f, a⟩ := bind_some a
 have e := r02_sum_w b 11 _ p f
 refine x_call 121 #[] #[] [Vs b, Vi 11] _ R R R R e ?_
 rintro i t ⟨rfl, n⟩
 clear e f
 refine inl1 ?_
 replace c := c.ext n
 refine x_u 5 [(9, Vi (Int.tmod g 10)), (10, Vi (i64.wrap (10 - (Int.tmod g 10)))), (11, Vi (Int.tmod (i64.wrap (10 - (Int.tmod g 10))) 10)), (2, Vi (Int.tmod (i64.wrap (10 - (Int.tmod g 10))) 10)), (3, Vi 0)] (x_ek (c_ret (r_ret (r_vals [Vi (Int.tmod (i64.wrap (10 - (Int.tmod g 10))) 10), Vi 0] ⟨R, R, trivial⟩ ?_))))
 obtain rfl := some_inj a
 exact ⟨R, c⟩
end Go.Proofs.YtlejnkhaphlooaaGreat
