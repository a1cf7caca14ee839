
/- Walks, printed by program: each function returns what the partial function of the same name returns. Conditions: those of each theorem. -/
import Derived.Test.YtlejnkhaphlooaaGreatGT
set_option linter.unusedVariables false
set_option linter.unusedSimpArgs false
set_option maxRecDepth 4000
namespace Go.Proofs.YtlejnkhaphlooaaGreat
open Go Go.V Go.Proofs Go.IntKind
def wagonnumber_digits_L2 (b : List UInt8) (c : Int) : Option (Step Int (Unit ⊕ Unit)) :=
match c with
| a =>
(if (decide (a < (b.length : Int))) = true then
((sAt b a).bind fun d =>
(if (decide (d < 48)) = true then
some (.done (.inl ()))
else
((sAt b a).bind fun e =>
(if (decide (e > 57)) = true then
some (.done (.inl ()))
else
some (.next (i64.wrap (a + 1)))))))
else
some (.done (.inr ())))
def wagonnumber_digits (a : List UInt8) (c : Int) : Option Bool :=
((loop (wagonnumber_digits_L2 a) 0).bind fun b => match b with
| (.inl _) => some false
| (.inr _) => some ((a.length : Int) == c))
theorem wagonnumber_digits_w (b : List UInt8) (d : Int) (t : Bool) (e : World) (a : wagonnumber_digits b d = some t) : CallVC Tryz.prog 126 [Vs b, Vi d] e fun z k => z = .bool t ∧ Ev [] e k := by
 refine calls_vc hmx Tryz.func126 (by kernel_rfl) R (rs := [.tmp 4]) R (by kernel_rfl) (args := [Vs b, Vi d]) R ?_
 have g : Ev [] e e := Ev.refl _ _
 have r : MS e [[]] := ⟨List.pairwise_singleton _ _, fun B s A v => by simp only [List.mem_singleton] at s; subst s; cases v⟩
 have q : FR e.heap.size [] := FR.nil _
 refine c_sp (x_u 1 [(4, .bool false)] (x_ek (c_seq (c_sp (x_u 1 [(5, Vi 0)] (x_ek (c_block ?_)))))))
 obtain ⟨u, p, o⟩ := bind_some a
 obtain ⟨i, p⟩ := loop_some p
 refine c_loop (loop_rule hmx (σ := Nat × Int) (fun j => match j with | (_, c) => [(0, Vs b), (1, Vi d), (5, Vi c)]) (fun j k => match j with | (y, c) => loopN (wagonnumber_digits_L2 b) y c = some u ∧ Ev [] e k ∧ MS k [[]] ∧ FR e.heap.size []) (fun j => j.1) (i, 0) ⟨R, R, R, trivial⟩ ⟨p, g, r, q⟩ ?_)
 rintro ⟨i, c⟩ n D ⟨f, g, r, q⟩
 rcases i with _ | i
 · exact (loopN_zero f).elim
 obtain ⟨C, a, f⟩ := bind_some f
 refine c_seq (c_sp (x_u 2 [(6, Vi c), (7, Vs b)] (x_len (vs := [Vs b]) (Vi (b.length : Int)) R R R (reads_slen tstr9 _) (x_u 1 [(9, .bool (decide (c < (b.length : Int))))] (x_ek (c_nm [(0, Vs b), (1, Vi d), (5, Vi c), (9, .bool (decide (c < (b.length : Int))))] (fun n => ?_)))))))
 refine c_if (decide (c < (b.length : Int))) R a (fun a => ?_) (fun a => ?_)
 · refine c_skip (k_then (c_seq (c_block (c_sp (x_u 2 [(12, Vs b), (13, Vi c)] ?_)))))
   obtain ⟨l, w, a⟩ := bind_some a
   refine x_index (xv := Vs b) (yv := Vi c) (.int .u8 l) R R R R (reads_sindex tstr9 w) (x_u 2 [(15, .bool (decide (l < 48))), (16, .bool (decide (l < 48)))] (x_if 16 (decide (l < 48)) R a (fun a => ?_) (fun a => ?_)))
   · refine x_u 5 [(17, undef), (18, undef), (19, undef), (20, undef), (21, .bool true)] (x_ek (c_true R (c_sp (x_u 1 [(4, .bool false)] (x_ek (c_ret (k_block_ret (k_then_ret ?_))))))))
     obtain rfl := some_inj a
     have h := some_inj f
     subst h
     replace a := o
     refine k_then_ret (k_block_ret (k_then_ret (r_ret (r_vals [.bool false] ⟨R, trivial⟩ ?_))))
     obtain rfl := some_inj a
     exact ⟨R, g⟩
   refine x_u 2 [(17, Vs b), (18, Vi c)] ?_
   obtain ⟨m, x, a⟩ := bind_some a
   refine x_index (xv := Vs b) (yv := Vi c) (.int .u8 m) R R R R (reads_sindex tstr9 x) (x_u 2 [(20, .bool (decide (m > 57))), (21, .bool (decide (m > 57)))] (x_ek (c_if (decide (m > 57)) R a (fun a => ?_) (fun a => ?_))))
   · refine c_sp (x_u 1 [(4, .bool false)] (x_ek (c_nm [(4, .bool false)] (fun n => ?_))))
     refine c_ret (k_block_ret (k_then_ret ?_))
     obtain rfl := some_inj a
     have h := some_inj f
     subst h
     replace a := o
     refine k_then_ret (k_block_ret (k_then_ret (r_ret (r_vals [.bool false] ⟨R, trivial⟩ ?_))))
     obtain rfl := some_inj a
     exact ⟨R, g⟩
   refine c_skip (k_block (k_then (c_plain (x_u 3 [(10, Vi c), (11, Vi (i64.wrap (c + 1))), (5, Vi (i64.wrap (c + 1)))] (x_end R ?_)))))
   obtain rfl := some_inj a
   exact k_then ⟨(i, i64.wrap (c + 1)), ⟨R, R, R, trivial⟩, ⟨f, g, r, q⟩, Nat.lt_succ_self _⟩
 refine c_exit (k_then_exit ?_)
 obtain rfl := some_inj a
 have h := some_inj f
 subst h
 replace a := o
 refine k_then_exit (k_block_in (k_then (c_nm [(0, Vs b), (1, Vi d)] (fun n => ?_))))
 refine c_sp (x_u 1 [(22, Vs b)] (x_len (vs := [Vs b]) (Vi (b.length : Int)) R R R (reads_slen tstr9 _) (x_u 3 [(24, Vi d), (25, .bool ((b.length : Int) == d)), (4, .bool ((b.length : Int) == d))] (x_ek (c_ret (r_ret (r_vals [.bool ((b.length : Int) == d)] ⟨R, trivial⟩ ?_)))))))
 obtain rfl := some_inj a
 exact ⟨R, g⟩
def wagonnumber_sum_L1 (d : List UInt8) (e : Int × Int) : Option (Step (Int × Int) Int) :=
match e with
| (b, a) =>
(if (decide (a < (d.length : Int))) = true then
((sAt d a).bind fun c =>
(if ((Int.tmod a 2) == 0) = true then
(if (decide ((i64.wrap ((i64.wrap (u8.wrap (c - 48))) * 2)) > 9)) = true then
some (.next (i64.wrap (b + (i64.wrap ((i64.wrap ((i64.wrap (u8.wrap (c - 48))) * 2)) - 9))), i64.wrap (a + 1)))
else
some (.next (i64.wrap (b + (i64.wrap ((i64.wrap (u8.wrap (c - 48))) * 2))), i64.wrap (a + 1))))
else
some (.next (i64.wrap (b + (i64.wrap (u8.wrap (c - 48)))), i64.wrap (a + 1)))))
else
some (.done b))
def wagonnumber_sum (b : List UInt8) : Option Int :=
((loop (wagonnumber_sum_L1 b) (0, 0)).bind fun a => match a with
| c => some c)
theorem wagonnumber_sum_w (e : List UInt8) (q : Int) (f : World) (d : wagonnumber_sum e = some q) : CallVC Tryz.prog 134 [Vs e] f fun x n => x = Vi q ∧ Ev [] f n := by
 refine calls_vc hmx Tryz.func134 (by kernel_rfl) R (rs := [.tmp 2]) R (by kernel_rfl) (args := [Vs e]) R ?_
 have i : Ev [] f f := Ev.refl _ _
 have k : MS f [[]] := ⟨List.pairwise_singleton _ _, fun z p y t => by simp only [List.mem_singleton] at p; subst p; cases t⟩
 have j : FR f.heap.size [] := FR.nil _
 refine c_sp (x_u 1 [(2, Vi 0)] (x_ek (c_sp (x_u 1 [(3, Vi 0)] (x_ek (c_seq (c_sp (x_u 1 [(4, Vi 0)] (x_ek ?_)))))))))
 refine c_block ?_
 obtain ⟨r, o, s⟩ := bind_some d
 obtain ⟨h, o⟩ := loop_some o
 refine c_loop (loop_rule hmx (σ := Nat × Int × Int) (fun l => match l with | (_, c, a) => [(0, Vs e), (3, Vi c), (4, Vi a)]) (fun l n => match l with | (w, c, a) => loopN (wagonnumber_sum_L1 e) w (c, a) = some r ∧ Ev [] f n ∧ MS n [[]] ∧ FR f.heap.size []) (fun l => l.1) (h, 0, 0) ⟨R, R, R, trivial⟩ ⟨o, i, k, j⟩ ?_)
 rintro ⟨h, c, a⟩ m B ⟨g, i, k, j⟩
 rcases h with _ | h
 · exact (loopN_zero g).elim
 obtain ⟨A, d, g⟩ := bind_some g
 refine c_seq (c_sp (x_u 2 [(6, Vi a), (7, Vs e)] (x_len (vs := [Vs e]) (Vi (e.length : Int)) R R R (reads_slen tstr9 _) (x_u 1 [(9, .bool (decide (a < (e.length : Int))))] (x_ek (c_nm [(0, Vs e), (3, Vi c), (4, Vi a), (9, .bool (decide (a < (e.length : Int))))] (fun m => ?_)))))))
 refine c_if (decide (a < (e.length : Int))) R d (fun d => ?_) (fun d => ?_)
 · refine c_skip (k_then (c_seq (c_block (c_sp (x_u 2 [(12, Vs e), (13, Vi a)] ?_)))))
   obtain ⟨b, u, d⟩ := bind_some d
   refine x_index (xv := Vs e) (yv := Vi a) (.int .u8 b) R R R R (reads_sindex tstr9 u) (x_u 1 [(15, .int .u8 (u8.wrap (b - 48)))] (x_convert (Vi (i64.wrap (u8.wrap (b - 48)))) _ R R R (tcv5_3 (u8.wrap (b - 48)) _) (inl1 (x_u 1 [(5, Vi (i64.wrap (u8.wrap (b - 48))))] (x_ek (c_seq (c_sp (x_u 3 [(17, Vi a), (18, Vi (Int.tmod a 2)), (19, .bool ((Int.tmod a 2) == 0))] (x_ek ?_)))))))))
   refine c_if ((Int.tmod a 2) == 0) R d (fun d => ?_) (fun d => ?_)
   · refine c_sp (x_u 3 [(20, Vi (i64.wrap (u8.wrap (b - 48)))), (21, Vi (i64.wrap ((i64.wrap (u8.wrap (b - 48))) * 2))), (5, Vi (i64.wrap ((i64.wrap (u8.wrap (b - 48))) * 2)))] (x_ek (c_nm [(0, Vs e), (3, Vi c), (4, Vi a), (5, Vi (i64.wrap ((i64.wrap (u8.wrap (b - 48))) * 2)))] (fun m => ?_))))
     refine c_sp (x_u 2 [(22, Vi (i64.wrap ((i64.wrap (u8.wrap (b - 48))) * 2))), (23, .bool (decide ((i64.wrap ((i64.wrap (u8.wrap (b - 48))) * 2)) > 9)))] (x_ek (c_if (decide ((i64.wrap ((i64.wrap (u8.wrap (b - 48))) * 2)) > 9)) R d (fun d => ?_) (fun d => ?_))))
     · refine c_plain (x_u 3 [(24, Vi (i64.wrap ((i64.wrap (u8.wrap (b - 48))) * 2))), (25, Vi (i64.wrap ((i64.wrap ((i64.wrap (u8.wrap (b - 48))) * 2)) - 9))), (5, Vi (i64.wrap ((i64.wrap ((i64.wrap (u8.wrap (b - 48))) * 2)) - 9)))] (x_ek (c_plain (x_u 4 [(26, Vi c), (27, Vi (i64.wrap ((i64.wrap ((i64.wrap (u8.wrap (b - 48))) * 2)) - 9))), (28, Vi (i64.wrap (c + (i64.wrap ((i64.wrap ((i64.wrap (u8.wrap (b - 48))) * 2)) - 9))))), (3, Vi (i64.wrap (c + (i64.wrap ((i64.wrap ((i64.wrap (u8.wrap (b - 48))) * 2)) - 9)))))] (x_end R (k_block (k_then (c_plain (x_u 3 [(10, Vi a), (11, Vi (i64.wrap (a + 1))), (4, Vi (i64.wrap (a + 1)))] ?_)))))))))
       refine x_end R ?_
       obtain rfl := some_inj d
       exact k_then ⟨(h, i64.wrap (c + (i64.wrap ((i64.wrap ((i64.wrap (u8.wrap (b - 48))) * 2)) - 9))), i64.wrap (a + 1)), ⟨R, R, R, trivial⟩, ⟨g, i, k, j⟩, Nat.lt_succ_self _⟩
     refine c_skip (k_then (c_plain (x_u 4 [(26, Vi c), (27, Vi (i64.wrap ((i64.wrap (u8.wrap (b - 48))) * 2))), (28, Vi (i64.wrap (c + (i64.wrap ((i64.wrap (u8.wrap (b - 48))) * 2))))), (3, Vi (i64.wrap (c + (i64.wrap ((i64.wrap (u8.wrap (b - 48))) * 2)))))] (x_end R (k_block (k_then (c_plain (x_u 3 [(10, Vi a), (11, Vi (i64.wrap (a + 1))), (4, Vi (i64.wrap (a + 1)))] (x_end R ?_)))))))))
     obtain rfl := some_inj d
     exact k_then ⟨(h, i64.wrap (c + (i64.wrap ((i64.wrap (u8.wrap (b - 48))) * 2))), i64.wrap (a + 1)), ⟨R, R, R, trivial⟩, ⟨g, i, k, j⟩, Nat.lt_succ_self _⟩
   refine c_skip (k_then (c_plain (x_u 4 [(26, Vi c), (27, Vi (i64.wrap (u8.wrap (b - 48)))), (28, Vi (i64.wrap (c + (i64.wrap (u8.wrap (b - 48)))))), (3, Vi (i64.wrap (c + (i64.wrap (u8.wrap (b - 48))))))] (x_end R (k_block (k_then (c_nm [(0, Vs e), (3, Vi (i64.wrap (c + (i64.wrap (u8.wrap (b - 48)))))), (4, Vi a)] (fun m => ?_))))))))
   refine c_plain (x_u 3 [(10, Vi a), (11, Vi (i64.wrap (a + 1))), (4, Vi (i64.wrap (a + 1)))] (x_end R ?_))
   obtain rfl := some_inj d
   exact k_then ⟨(h, i64.wrap (c + (i64.wrap (u8.wrap (b - 48)))), i64.wrap (a + 1)), ⟨R, R, R, trivial⟩, ⟨g, i, k, j⟩, Nat.lt_succ_self _⟩
 refine c_exit (k_then_exit ?_)
 obtain rfl := some_inj d
 have v := some_inj g
 subst v
 replace d := s
 refine k_then_exit (k_block_in (k_then (c_nm [(3, Vi c)] (fun m => ?_))))
 refine c_sp (x_u 2 [(29, Vi c), (2, Vi c)] (x_ek (c_ret (r_ret (r_vals [Vi c] ⟨R, trivial⟩ ?_)))))
 obtain rfl := some_inj d
 exact ⟨R, i⟩
def wagonnumber_check (a : List UInt8) : Option Int :=
((wagonnumber_sum a).bind fun b =>
some (Int.tmod (i64.wrap (10 - (Int.tmod b 10))) 10))
theorem wagonnumber_check_w (a : List UInt8) (i : Int) (b : World) (d : wagonnumber_check a = some i) : CallVC Tryz.prog 127 [Vs a] b fun j m => j = Vi i ∧ Ev [] b m := by
 refine calls_vc hmx Tryz.func127 (by kernel_rfl) R (rs := [.tmp 2]) R (by kernel_rfl) (args := [Vs a]) R ?_
 have e : Ev [] b b := Ev.refl _ _
 have o : MS b [[]] := ⟨List.pairwise_singleton _ _, fun p g n k => by simp only [List.mem_singleton] at g; subst g; cases k⟩
 refine c_sp (x_u 1 [(2, Vi 0)] (x_ek (c_sp (x_u 1 [(3, Vs a)] ?_))))
 obtain ⟨c, h, d⟩ := bind_some d
 have f := wagonnumber_sum_w a _ b h
 refine x_call 134 #[] #[] [Vs a] _ R R R R f ?_
 rintro j q ⟨rfl, l⟩
 clear f h
 refine inl1 ?_
 replace e := e.ext l
 refine x_u 4 [(5, Vi (Int.tmod c 10)), (6, Vi (i64.wrap (10 - (Int.tmod c 10)))), (7, Vi (Int.tmod (i64.wrap (10 - (Int.tmod c 10))) 10)), (2, Vi (Int.tmod (i64.wrap (10 - (Int.tmod c 10))) 10))] (x_ek (c_ret (r_ret (r_vals [Vi (Int.tmod (i64.wrap (10 - (Int.tmod c 10))) 10)] ⟨R, trivial⟩ ?_))))
 obtain rfl := some_inj d
 exact ⟨R, e⟩
def wagonnumber_Valid (a : List UInt8) : Option Int :=
((wagonnumber_digits a 12).bind fun b =>
(if (!b) = true then
some 11
else
((sAt a 11).bind fun c =>
(if 0 ≤ ((0 : Int) : Int) ∧ ((0 : Int) : Int) ≤ (11 : Int) ∧ (11 : Int) ≤ (a.length : Int) then
((wagonnumber_check ((a.drop (Int.toNat (0 : Int))).take (Int.toNat 11 - Int.toNat (0 : Int)))).bind fun d =>
(if ((i64.wrap (u8.wrap (c - 48))) != d) = true then
some 9
else
some 0))
else none))))
theorem wagonnumber_Valid_w (b : List UInt8) (n : Int) (g : World) (a : wagonnumber_Valid b = some n) : CallVC Tryz.prog 105 [Vs b] g fun j t => j = Vi n ∧ Ev [] g t := by
 refine calls_vc hmx Tryz.func105 (by kernel_rfl) R (rs := [.tmp 2]) R (by kernel_rfl) (args := [Vs b]) R ?_
 have c : Ev [] g g := Ev.refl _ _
 have w : MS g [[]] := ⟨List.pairwise_singleton _ _, fun x m v p => by simp only [List.mem_singleton] at m; subst m; cases p⟩
 refine c_sp (x_u 1 [(2, Vi 0)] (x_ek (c_seq (c_sp (x_u 1 [(3, Vs b)] ?_)))))
 obtain ⟨o, f, a⟩ := bind_some a
 have e := wagonnumber_digits_w b 12 _ g f
 refine x_call 126 #[] #[] [Vs b, Vi 12] _ R R R R e ?_
 rintro j l ⟨rfl, q⟩
 clear e f
 refine inl1 ?_
 replace c := c.ext q
 refine x_u 1 [(5, .bool (!o))] (x_ek (c_if (!o) R a (fun a => ?_) (fun a => ?_)))
 · refine c_sp (x_u 1 [(2, Vi 11)] (x_ek (c_ret (k_then_ret (r_ret (r_vals [Vi 11] ⟨R, trivial⟩ ?_))))))
   obtain rfl := some_inj a
   exact ⟨R, c⟩
 refine c_skip (k_then (c_seq (c_seq (c_drawnp [] [(0, false), (1, false), (2, false), (4, false), (5, false)] (.alt 3 false (opsThen [(6, false), (7, false)] .stop) (.alt 6 false (opsThen [(3, false), (7, false)] .stop) .none_)) _ (by kernel_rfl) R ?_))))
 replace c := c.ext (Ev.drew l)
 refine x_u 1 [(6, Vs b)] ?_
 obtain ⟨d, s, a⟩ := bind_some a
 refine x_index (xv := Vs b) (yv := Vi 11) (.int .u8 d) R R R R (reads_sindex tstr9 s) (x_u 2 [(8, .int .u8 (u8.wrap (d - 48))), (10, Vs b)] ?_)
 have r := guard_l a
 replace a := guard_r a
 refine x_slice (xv := Vs b) (lv := none) (hv := (some (Vi 11))) (mv := none) (Vs ((b.drop (Int.toNat (0 : Int))).take (Int.toNat 11 - Int.toNat (0 : Int)))) R R R R R R (reads_scut tstr9 _ none (some 11) r) (x_end R (t_alt _ R ?_ ?_))
 · refine x_convert (Vi (i64.wrap (u8.wrap (d - 48)))) _ R R R (tcv5_3 (u8.wrap (d - 48)) _) (⟨.inr (Ev.refl _ _), ?_⟩)
   obtain ⟨i, f, a⟩ := bind_some a
   have e := wagonnumber_check_w ((b.drop (Int.toNat (0 : Int))).take (Int.toNat 11 - Int.toNat (0 : Int))) _ (l).drew f
   refine x_call 127 #[] #[] [Vs ((b.drop (Int.toNat (0 : Int))).take (Int.toNat 11 - Int.toNat (0 : Int)))] _ R R R R e ?_
   rintro j u ⟨rfl, h⟩
   clear e f
   refine ⟨.inr h, ?_⟩
   replace c := c.ext h
   refine x_u 1 [(13, .bool ((i64.wrap (u8.wrap (d - 48))) != i))] (x_end R (t_stop (k_then (c_if ((i64.wrap (u8.wrap (d - 48))) != i) R a (fun a => ?_) (fun a => ?_)))))
   · refine c_sp (x_u 1 [(2, Vi 9)] (x_ek (c_nm [(2, Vi 9)] (fun k => ?_))))
     refine c_ret (k_then_ret (r_ret (r_vals [Vi 9] ⟨R, trivial⟩ ?_)))
     obtain rfl := some_inj a
     exact ⟨R, c⟩
   refine c_skip (k_then (c_norm [] trivial (fun k => ?_)))
   refine c_sp (x_u 1 [(2, Vi 0)] (x_ek (c_ret (r_ret (r_vals [Vi 0] ⟨R, trivial⟩ ?_)))))
   obtain rfl := some_inj a
   exact ⟨R, c⟩
 refine t_alt _ R ?_ ?_
 · obtain ⟨i, f, a⟩ := bind_some a
   have e := wagonnumber_check_w ((b.drop (Int.toNat (0 : Int))).take (Int.toNat 11 - Int.toNat (0 : Int))) _ (l).drew f
   refine x_call 127 #[] #[] [Vs ((b.drop (Int.toNat (0 : Int))).take (Int.toNat 11 - Int.toNat (0 : Int)))] _ R R R R e ?_
   rintro j u ⟨rfl, h⟩
   clear e f
   refine ⟨.inr h, ?_⟩
   replace c := c.ext h
   refine x_convert (Vi (i64.wrap (u8.wrap (d - 48)))) _ R R R (tcv5_3 (u8.wrap (d - 48)) _) (⟨.inr (Ev.refl _ _), ?_⟩)
   refine x_u 1 [(13, .bool ((i64.wrap (u8.wrap (d - 48))) != i))] (x_end R (t_stop (k_then (c_if ((i64.wrap (u8.wrap (d - 48))) != i) R a (fun a => ?_) (fun a => ?_)))))
   · refine c_sp (x_u 1 [(2, Vi 9)] (x_ek (c_nm [(2, Vi 9)] (fun k => ?_))))
     refine c_ret (k_then_ret (r_ret (r_vals [Vi 9] ⟨R, trivial⟩ ?_)))
     obtain rfl := some_inj a
     exact ⟨R, c⟩
   refine c_skip (k_then (c_norm [] trivial (fun k => ?_)))
   refine c_sp (x_u 1 [(2, Vi 0)] (x_ek (c_ret (r_ret (r_vals [Vi 0] ⟨R, trivial⟩ ?_)))))
   obtain rfl := some_inj a
   exact ⟨R, c⟩
 exact t_none
def wagonnumber_Kind_J6 (b : Int) (a : Bool) : Option (Int × Int) :=
(if a = true then
some (2, 0)
else
(if (b == 57) = true then
some (3, 0)
else
some (0, 0)))
def wagonnumber_Kind_J5 (a : Int) (b : Bool) : Option (Int × Int) :=
(if b = true then
some (1, 0)
else
(if (a == 50) = true then
wagonnumber_Kind_J6 a true
else
wagonnumber_Kind_J6 a (a == 52)))
def wagonnumber_Kind (b : List UInt8) : Option (Int × Int) :=
((wagonnumber_Valid b).bind fun c =>
(if (c != 0) = true then
some (0, c)
else
((sAt b 4).bind fun a =>
(if (a == 55) = true then
wagonnumber_Kind_J5 a true
else
wagonnumber_Kind_J5 a (a == 56)))))
theorem wagonnumber_Kind_w (f : List UInt8) (l : Int × Int) (d : World) (a : wagonnumber_Kind f = some l) : CallVC Tryz.prog 72 [Vs f] d fun s h => s = .tuple #[Vi l.1, Vi l.2] ∧ Ev [] d h := by
 refine calls_vc hmx Tryz.func72 (by kernel_rfl) R (rs := [.tmp 2, .tmp 3]) R (by kernel_rfl) (args := [Vs f]) R ?_
 have c : Ev [] d d := Ev.refl _ _
 have e : MS d [[]] := ⟨List.pairwise_singleton _ _, fun w q v t => by simp only [List.mem_singleton] at q; subst q; cases t⟩
 have j : FR d.heap.size [] := FR.nil _
 refine c_sp (x_u 2 [(2, Vi 0), (3, Vi 0)] (x_ek (c_seq (c_sp (x_u 1 [(5, Vs f)] ?_)))))
 obtain ⟨i, r, a⟩ := bind_some a
 have o := wagonnumber_Valid_w f _ d r
 refine x_call 105 #[] #[] [Vs f] _ R R R R o ?_
 rintro s x ⟨rfl, p⟩
 clear o r
 refine inl1 ?_
 replace e := e.ev p
 replace c := c.ext p
 refine x_u 1 [(4, Vi i)] (x_ek (c_sp (x_u 2 [(7, Vi i), (8, .bool (i != 0))] (x_ek (c_if (i != 0) R a (fun a => ?_) (fun a => ?_))))))
 · refine c_sp (x_u 3 [(9, Vi i), (2, Vi 0), (3, Vi i)] (x_ek (c_ret (k_then_ret (r_ret (r_vals [Vi 0, Vi i] ⟨R, R, trivial⟩ ?_))))))
   obtain rfl := some_inj a
   exact ⟨R, c⟩
 refine c_skip (k_then (c_seq (c_sp (x_u 1 [(10, Vs f)] ?_))))
 obtain ⟨b, u, a⟩ := bind_some a
 refine x_index (xv := Vs f) (yv := Vi 4) (.int .u8 b) R R R R (reads_sindex tstr9 u) (x_ek (c_block (c_join (σ := Bool) (fun g => match g with | m => [(11, .int .u8 b), (12, .bool m)]) (fun g h => match g with | m => wagonnumber_Kind_J5 b m = some l ∧ Ev [] d h ∧ MS h [[]] ∧ FR d.heap.size []) ?_ ?_)))
 · refine c_sp (x_u 2 [(13, .bool (b == 55)), (12, .bool (b == 55))] (x_ek (c_if (b == 55) R a (fun a => ?_) (fun a => ?_))))
   · refine c_skip ?_
     exact k_then ⟨true, ⟨R, R, trivial⟩, a, c, e, j⟩
   refine c_plain (x_u 2 [(14, .bool (b == 56)), (12, .bool (b == 56))] (x_end R ?_))
   exact k_then ⟨b == 56, ⟨R, R, trivial⟩, a, c, e, j⟩
 rintro m k y ⟨a, c, e, j⟩
 refine c_if m R a (fun a => ?_) (fun a => ?_)
 · refine c_sp (x_u 2 [(2, Vi 1), (3, Vi 0)] (x_ek (c_nm [(2, Vi 1), (3, Vi 0)] (fun k => ?_))))
   refine c_ret (k_block_ret (k_then_ret (r_ret (r_vals [Vi 1, Vi 0] ⟨R, R, trivial⟩ ?_))))
   obtain rfl := some_inj a
   exact ⟨R, c⟩
 refine c_join (σ := Bool) (fun g => match g with | n => [(11, .int .u8 b), (15, .bool n)]) (fun g h => match g with | n => wagonnumber_Kind_J6 b n = some l ∧ Ev [] d h ∧ MS h [[]] ∧ FR d.heap.size []) ?_ ?_
 · refine c_sp (x_u 2 [(16, .bool (b == 50)), (15, .bool (b == 50))] (x_ek (c_nm [(11, .int .u8 b), (15, .bool (b == 50))] (fun k => ?_))))
   refine c_if (b == 50) R a (fun a => ?_) (fun a => ?_)
   · refine c_skip ?_
     exact k_then ⟨true, ⟨R, R, trivial⟩, a, c, e, j⟩
   refine c_plain (x_u 2 [(17, .bool (b == 52)), (15, .bool (b == 52))] (x_end R ?_))
   exact k_then ⟨b == 52, ⟨R, R, trivial⟩, a, c, e, j⟩
 rintro n k z ⟨a, c, e, j⟩
 refine c_if n R a (fun a => ?_) (fun a => ?_)
 · refine c_sp (x_u 2 [(2, Vi 2), (3, Vi 0)] (x_ek (c_nm [(2, Vi 2), (3, Vi 0)] (fun k => ?_))))
   refine c_ret (k_block_ret (k_then_ret (r_ret (r_vals [Vi 2, Vi 0] ⟨R, R, trivial⟩ ?_))))
   obtain rfl := some_inj a
   exact ⟨R, c⟩
 refine c_sp (x_u 2 [(19, .bool (b == 57)), (18, .bool (b == 57))] (x_ek (c_nm [(18, .bool (b == 57))] (fun k => ?_))))
 refine c_if (b == 57) R a (fun a => ?_) (fun a => ?_)
 · refine c_sp (x_u 2 [(2, Vi 3), (3, Vi 0)] (x_ek (c_ret (k_block_ret (k_then_ret (r_ret (r_vals [Vi 3, Vi 0] ⟨R, R, trivial⟩ ?_)))))))
   obtain rfl := some_inj a
   exact ⟨R, c⟩
 refine c_skip (k_block (k_then (c_sp (x_u 2 [(2, Vi 0), (3, Vi 0)] (x_ek (c_ret (r_ret (r_vals [Vi 0, Vi 0] ⟨R, R, trivial⟩ ?_))))))))
 obtain rfl := some_inj a
 exact ⟨R, c⟩
end Go.Proofs.YtlejnkhaphlooaaGreat
