
/- Walks, printed by program: each function returns what the partial function of the same name returns. Conditions: those of each theorem. -/
import Derived.Test.YtlejnkhaphlooaaGreatGT
import Derived.Test.YtlejnkhaphlooaaGreatGr02
set_option linter.unusedVariables false
set_option linter.unusedSimpArgs false
set_option maxRecDepth 4000
namespace Go.Proofs.YtlejnkhaphlooaaGreat
open Go Go.V Go.Proofs Go.IntKind
def r06_Name_L2 (b : List UInt8) (c : Int) : Option (Step Int (Unit ⊕ Unit)) :=
match c with
| a =>
(if (decide (a < (b.length : Int))) = true then
((sAt b a).bind fun d =>
(if (decide (d ≥ 97)) = true then
((sAt b a).bind fun e =>
(if (decide (e ≤ 122)) = true then
some (.next (i64.wrap (a + 1)))
else
((sAt b a).bind fun f =>
(if (decide (f ≥ 48)) = true then
((sAt b a).bind fun g =>
(if (!(decide (g ≤ 57))) = true then
some (.done (.inl ()))
else
some (.next (i64.wrap (a + 1)))))
else
some (.done (.inl ()))))))
else
((sAt b a).bind fun h =>
(if (decide (h ≥ 48)) = true then
((sAt b a).bind fun i =>
(if (!(decide (i ≤ 57))) = true then
some (.done (.inl ()))
else
some (.next (i64.wrap (a + 1)))))
else
some (.done (.inl ()))))))
else
some (.done (.inr ())))
def r06_Name (a : List UInt8) : Option Bool :=
((loop (r06_Name_L2 a) 0).bind fun b => match b with
| (.inl _) => some false
| (.inr _) => (if (decide ((a.length : Int) ≥ 1)) = true then
some (decide ((a.length : Int) ≤ 12))
else
some false))
theorem r06_Name_w (b : List UInt8) (w : Bool) (g : World) (a : r06_Name b = some w) : CallVC Tryz.prog 77 [Vs b] g fun G q => G = .bool w ∧ Ev [] g q := by
 refine calls_vc hmx Tryz.func77 (by kernel_rfl) R (rs := [.tmp 2]) R (by kernel_rfl) (args := [Vs b]) R ?_
 have d : Ev [] g g := Ev.refl _ _
 have n : MS g [[]] := ⟨List.pairwise_singleton _ _, fun I v H y => by simp only [List.mem_singleton] at v; subst v; cases y⟩
 have m : FR g.heap.size [] := FR.nil _
 refine c_sp (x_u 1 [(2, .bool false)] (x_ek (c_seq (c_sp (x_u 1 [(3, Vi 0)] (x_ek (c_block ?_)))))))
 obtain ⟨x, u, l⟩ := bind_some a
 obtain ⟨i, u⟩ := loop_some u
 refine c_loop (loop_rule hmx (σ := Nat × Int) (fun o => match o with | (_, c) => [(0, Vs b), (3, Vi c)]) (fun o q => match o with | (F, c) => loopN (r06_Name_L2 b) F c = some x ∧ Ev [] g q ∧ MS q [[]] ∧ FR g.heap.size []) (fun o => o.1) (i, 0) ⟨R, R, trivial⟩ ⟨u, d, n, m⟩ ?_)
 rintro ⟨i, c⟩ h K ⟨e, d, n, m⟩
 rcases i with _ | i
 · exact (loopN_zero e).elim
 obtain ⟨J, a, e⟩ := bind_some e
 refine c_seq (c_sp (x_u 2 [(4, Vi c), (5, Vs b)] (x_len (vs := [Vs b]) (Vi (b.length : Int)) R R R (reads_slen tstr9 _) (x_u 1 [(7, .bool (decide (c < (b.length : Int))))] (x_ek (c_nm [(0, Vs b), (3, Vi c), (7, .bool (decide (c < (b.length : Int))))] (fun h => ?_)))))))
 refine c_if (decide (c < (b.length : Int))) R a (fun a => ?_) (fun a => ?_)
 · refine c_skip (k_then (c_seq (c_block (c_sp (x_u 2 [(10, Vs b), (11, Vi c)] ?_)))))
   obtain ⟨r, z, a⟩ := bind_some a
   refine x_index (xv := Vs b) (yv := Vi c) (.int .u8 r) R R R R (reads_sindex tstr9 z) (x_u 2 [(13, .bool (decide (r ≥ 97))), (14, .bool (decide (r ≥ 97)))] (x_if 14 (decide (r ≥ 97)) R a (fun a => ?_) (fun a => ?_)))
   · refine x_u 2 [(15, Vs b), (16, Vi c)] ?_
     obtain ⟨p, A, a⟩ := bind_some a
     refine x_index (xv := Vs b) (yv := Vi c) (.int .u8 p) R R R R (reads_sindex tstr9 A) (x_u 3 [(18, .bool (decide (p ≤ 122))), (19, .bool (decide (p ≤ 122))), (20, .bool (decide (p ≤ 122)))] (x_if 20 (decide (p ≤ 122)) R a (fun a => ?_) (fun a => ?_)))
     · refine x_u 12 [(21, undef), (22, undef), (23, undef), (24, undef), (25, undef), (26, undef), (27, undef), (28, undef), (29, undef), (30, undef), (31, .bool true), (32, .bool false)] (x_ek (c_nm [(0, Vs b), (3, Vi c), (32, .bool false)] (fun h => ?_)))
       refine c_false R (c_skip (k_block (k_then (c_plain (x_u 3 [(8, Vi c), (9, Vi (i64.wrap (c + 1))), (3, Vi (i64.wrap (c + 1)))] (x_end R ?_))))))
       obtain rfl := some_inj a
       exact k_then ⟨(i, i64.wrap (c + 1)), ⟨R, R, trivial⟩, ⟨e, d, n, m⟩, Nat.lt_succ_self _⟩
     refine x_u 2 [(21, Vs b), (22, Vi c)] ?_
     obtain ⟨s, B, a⟩ := bind_some a
     refine x_index (xv := Vs b) (yv := Vi c) (.int .u8 s) R R R R (reads_sindex tstr9 B) (x_u 2 [(24, .bool (decide (s ≥ 48))), (25, .bool (decide (s ≥ 48)))] (x_if 25 (decide (s ≥ 48)) R a (fun a => ?_) (fun a => ?_)))
     · refine x_u 2 [(26, Vs b), (27, Vi c)] ?_
       obtain ⟨j, C, a⟩ := bind_some a
       refine x_index (xv := Vs b) (yv := Vi c) (.int .u8 j) R R R R (reads_sindex tstr9 C) (x_u 4 [(29, .bool (decide (j ≤ 57))), (30, .bool (decide (j ≤ 57))), (31, .bool (decide (j ≤ 57))), (32, .bool (!(decide (j ≤ 57))))] (x_ek (c_nm [(0, Vs b), (3, Vi c), (32, .bool (!(decide (j ≤ 57))))] (fun h => ?_))))
       refine c_if (!(decide (j ≤ 57))) R a (fun a => ?_) (fun a => ?_)
       · refine c_sp (x_u 1 [(2, .bool false)] (x_ek (c_ret (k_block_ret (k_then_ret ?_)))))
         obtain rfl := some_inj a
         have f := some_inj e
         subst f
         replace a := l
         refine k_then_ret (k_block_ret (k_then_ret (r_ret (r_vals [.bool false] ⟨R, trivial⟩ ?_))))
         obtain rfl := some_inj a
         exact ⟨R, d⟩
       refine c_skip (k_block (k_then (c_plain (x_u 3 [(8, Vi c), (9, Vi (i64.wrap (c + 1))), (3, Vi (i64.wrap (c + 1)))] (x_end R ?_)))))
       obtain rfl := some_inj a
       exact k_then ⟨(i, i64.wrap (c + 1)), ⟨R, R, trivial⟩, ⟨e, d, n, m⟩, Nat.lt_succ_self _⟩
     refine x_u 7 [(26, undef), (27, undef), (28, undef), (29, undef), (30, .bool false), (31, .bool false), (32, .bool true)] (x_ek (c_nm [(0, Vs b), (3, Vi c), (32, .bool true)] (fun h => ?_)))
     refine c_true R (c_sp (x_u 1 [(2, .bool false)] (x_ek (c_ret (k_block_ret (k_then_ret ?_))))))
     obtain rfl := some_inj a
     have f := some_inj e
     subst f
     replace a := l
     refine k_then_ret (k_block_ret (k_then_ret (r_ret (r_vals [.bool false] ⟨R, trivial⟩ ?_))))
     obtain rfl := some_inj a
     exact ⟨R, d⟩
   refine x_u 8 [(15, undef), (16, undef), (17, undef), (18, undef), (19, .bool false), (20, .bool false), (21, Vs b), (22, Vi c)] ?_
   obtain ⟨t, D, a⟩ := bind_some a
   refine x_index (xv := Vs b) (yv := Vi c) (.int .u8 t) R R R R (reads_sindex tstr9 D) (x_u 2 [(24, .bool (decide (t ≥ 48))), (25, .bool (decide (t ≥ 48)))] (x_if 25 (decide (t ≥ 48)) R a (fun a => ?_) (fun a => ?_)))
   · refine x_u 2 [(26, Vs b), (27, Vi c)] ?_
     obtain ⟨k, E, a⟩ := bind_some a
     refine x_index (xv := Vs b) (yv := Vi c) (.int .u8 k) R R R R (reads_sindex tstr9 E) (x_u 4 [(29, .bool (decide (k ≤ 57))), (30, .bool (decide (k ≤ 57))), (31, .bool (decide (k ≤ 57))), (32, .bool (!(decide (k ≤ 57))))] (x_ek (c_nm [(0, Vs b), (3, Vi c), (32, .bool (!(decide (k ≤ 57))))] (fun h => ?_))))
     refine c_if (!(decide (k ≤ 57))) R a (fun a => ?_) (fun a => ?_)
     · refine c_sp (x_u 1 [(2, .bool false)] (x_ek (c_ret (k_block_ret (k_then_ret ?_)))))
       obtain rfl := some_inj a
       have f := some_inj e
       subst f
       replace a := l
       refine k_then_ret (k_block_ret (k_then_ret (r_ret (r_vals [.bool false] ⟨R, trivial⟩ ?_))))
       obtain rfl := some_inj a
       exact ⟨R, d⟩
     refine c_skip (k_block (k_then (c_plain (x_u 3 [(8, Vi c), (9, Vi (i64.wrap (c + 1))), (3, Vi (i64.wrap (c + 1)))] (x_end R ?_)))))
     obtain rfl := some_inj a
     exact k_then ⟨(i, i64.wrap (c + 1)), ⟨R, R, trivial⟩, ⟨e, d, n, m⟩, Nat.lt_succ_self _⟩
   refine x_u 7 [(26, undef), (27, undef), (28, undef), (29, undef), (30, .bool false), (31, .bool false), (32, .bool true)] (x_ek (c_nm [(0, Vs b), (3, Vi c), (32, .bool true)] (fun h => ?_)))
   refine c_true R (c_sp (x_u 1 [(2, .bool false)] (x_ek (c_ret (k_block_ret (k_then_ret ?_))))))
   obtain rfl := some_inj a
   have f := some_inj e
   subst f
   replace a := l
   refine k_then_ret (k_block_ret (k_then_ret (r_ret (r_vals [.bool false] ⟨R, trivial⟩ ?_))))
   obtain rfl := some_inj a
   exact ⟨R, d⟩
 refine c_exit (k_then_exit ?_)
 obtain rfl := some_inj a
 have f := some_inj e
 subst f
 replace a := l
 refine k_then_exit (k_block_in (k_then (c_nm [(0, Vs b)] (fun h => ?_))))
 refine c_sp (x_u 1 [(33, Vs b)] (x_len (vs := [Vs b]) (Vi (b.length : Int)) R R R (reads_slen tstr9 _) (x_u 2 [(35, .bool (decide ((b.length : Int) ≥ 1))), (36, .bool (decide ((b.length : Int) ≥ 1)))] (x_if 36 (decide ((b.length : Int) ≥ 1)) R a (fun a => ?_) (fun a => ?_)))))
 · refine x_u 1 [(37, Vs b)] (x_len (vs := [Vs b]) (Vi (b.length : Int)) R R R (reads_slen tstr9 _) (x_u 3 [(39, .bool (decide ((b.length : Int) ≤ 12))), (40, .bool (decide ((b.length : Int) ≤ 12))), (2, .bool (decide ((b.length : Int) ≤ 12)))] (x_ek (c_ret (r_ret (r_vals [.bool (decide ((b.length : Int) ≤ 12))] ⟨R, trivial⟩ ?_))))))
   obtain rfl := some_inj a
   exact ⟨R, d⟩
 refine x_u 5 [(37, undef), (38, undef), (39, undef), (40, .bool false), (2, .bool false)] (x_ek (c_ret (r_ret (r_vals [.bool false] ⟨R, trivial⟩ ?_))))
 obtain rfl := some_inj a
 exact ⟨R, d⟩
def r06_Valid_J7 (a : List UInt8) (b : Bool) : Option Int :=
(if b = true then
some 2
else
((r06_Name a).bind fun c =>
(if (!c) = true then
some 7
else
some 0)))
def r06_Valid_J6 (c : Int) (h : Int) (b : Int) (d : Int) (e : Int) (a : List UInt8) (f : Int) (g : Int) : Option Int :=
(if (h != f) = true then
some 1
else
(if (decide (c < g)) = true then
r06_Valid_J7 a true
else
(if (decide (c > 400)) = true then
r06_Valid_J7 a true
else
(if (decide (b < 50)) = true then
r06_Valid_J7 a true
else
(if (decide (b > 2000)) = true then
r06_Valid_J7 a true
else
(if (decide (d < 0)) = true then
r06_Valid_J7 a true
else
(if (decide (d > b)) = true then
r06_Valid_J7 a true
else
(if (decide (e < 0)) = true then
r06_Valid_J7 a true
else
r06_Valid_J7 a (decide (e > 9))))))))))
def r06_Valid (h : List UInt8) (b : Int) (c : Int) (d : Int) (e : Int) (f : Int) (i : Bool) (g : List UInt8) : Option Int :=
((r02_Kind h).bind fun a =>
(if (a.2 != 0) = true then
some a.2
else
(if (a.1 == 2) = true then
r06_Valid_J6 b c d e f g 2 80
else
(if (a.1 == 3) = true then
r06_Valid_J6 b c d e f g 6 120
else
r06_Valid_J6 b c d e f g 4 80))))
theorem r06_Valid_w (n : List UInt8) (j : Int) (l : Int) (e : Int) (g : Int) (h : Int) (s : Bool) (m : List UInt8) (y : Int) (o : World) (a : r06_Valid n j l e g h s m = some y) : CallVC Tryz.prog 45 [.agg #[Vs n, Vi j, Vi l, Vi e, Vi g, Vi h, .bool s, Vs m]] o fun B r => B = Vi y ∧ Ev [] o r := by
 refine calls_vc hmx Tryz.func45 (by kernel_rfl) R (rs := [.tmp 2]) R (by kernel_rfl) (args := [.agg #[Vs n, Vi j, Vi l, Vi e, Vi g, Vi h, .bool s, Vs m]]) R ?_
 have d : Ev [] o o := Ev.refl _ _
 have i : MS o [[]] := ⟨List.pairwise_singleton _ _, fun L D J G => by simp only [List.mem_singleton] at D; subst D; cases G⟩
 have k : FR o.heap.size [] := FR.nil _
 refine c_sp (x_box (xv := .agg #[Vs n, Vi j, Vi l, Vi e, Vi g, Vi h, .bool s, Vs m]) R R R (fun b F E c C K => ?_))
 replace c : F.heap[b]? = some (.cells #[Vs n, Vi j, Vi l, Vi e, Vi g, Vi h, .bool s, Vs m] 34 (0, 0)) := c
 refine inl1 ?_
 replace i := i.box C E c
 replace k := k.box d.size E
 replace d := d.ext C
 refine x_u 1 [(2, Vi 0)] (x_ek (c_sp (x_fieldAddr (xv := Vp b 0) (Vp b 0) R R R (reads_field tfld34_0 _ _) (x_load (xv := Vp b 0) (Vs n) R R R (reads_box tcell9 c nn 0 _ R) ?_))))
 obtain ⟨f, w, a⟩ := bind_some a
 have v := r02_Kind_w n _ F w
 refine x_call 76 #[] #[] [Vs n] _ R R R R v ?_
 rintro B N ⟨rfl, A⟩
 clear v w
 refine inl1 ?_
 replace c := A.box c nn
 replace i := i.ev A
 replace d := d.ext A
 refine x_u 5 [(7, .tuple #[Vi f.1, Vi f.2]), (11, Vi f.1), (12, Vi f.2), (3, Vi f.1), (4, Vi f.2)] (x_ek (c_seq (c_sp (x_u 2 [(13, Vi f.2), (14, .bool (f.2 != 0))] (x_ek (c_if (f.2 != 0) R a (fun a => ?_) (fun a => ?_)))))))
 · refine c_sp (x_u 2 [(15, Vi f.2), (2, Vi f.2)] (x_ek (c_nm [(2, Vi f.2)] (fun u => ?_))))
   refine c_ret (k_then_ret (r_ret (r_vals [Vi f.2] ⟨R, trivial⟩ ?_)))
   obtain rfl := some_inj a
   exact ⟨R, d⟩
 refine c_skip (k_then (c_sp (x_u 2 [(5, Vi 4), (6, Vi 80)] (x_ek (c_nm [(1, Vp b 0), (3, Vi f.1), (5, Vi 4), (6, Vi 80)] (fun u => ?_))))))
 refine c_join (σ := Int × Int) (fun t => match t with | (p, q) => [(1, Vp b 0), (5, Vi p), (6, Vi q)]) (fun t r => match t with | (p, q) => r06_Valid_J6 j l e g h m p q = some y ∧ Ev [] o r ∧ MS r [[b], []] ∧ FR o.heap.size [[b]] ∧ r.heap[b]? = some (.cells #[Vs n, Vi j, Vi l, Vi e, Vi g, Vi h, .bool s, Vs m] 34 (0, 0))) ?_ ?_
 · refine c_sp (x_u 1 [(16, Vi f.1)] (x_ek (c_block (c_sp (x_u 2 [(18, .bool (f.1 == 2)), (17, .bool (f.1 == 2))] (x_ek (c_if (f.1 == 2) R a (fun a => ?_) (fun a => ?_))))))))
   · refine c_plain (x_u 1 [(5, Vi 2)] (x_end R (k_block ?_)))
     exact k_then ⟨(2, 80), ⟨R, R, R, trivial⟩, a, d, i, k, c⟩
   refine c_sp (x_u 2 [(20, .bool (f.1 == 3)), (19, .bool (f.1 == 3))] (x_ek (c_if (f.1 == 3) R a (fun a => ?_) (fun a => ?_))))
   · refine c_plain (x_u 2 [(5, Vi 6), (6, Vi 120)] (x_end R (k_block ?_)))
     exact k_then ⟨(6, 120), ⟨R, R, R, trivial⟩, a, d, i, k, c⟩
   refine c_skip (k_block ?_)
   exact k_then ⟨(4, 80), ⟨R, R, R, trivial⟩, a, d, i, k, c⟩
 rintro ⟨p, q⟩ u Q ⟨a, d, i, k, c⟩
 refine c_seq (c_block (c_sp (x_fieldAddr (xv := Vp b 0) (Vp b 2) R R R (reads_field tfld34_2 _ _) (x_load (xv := Vp b 2) (Vi l) R R R (reads_box tcell3 c nn 2 _ R) (x_u 3 [(24, Vi p), (25, .bool (l != p)), (21, .bool (l != p))] (x_ek (c_nm [(1, Vp b 0), (6, Vi q), (21, .bool (l != p))] (fun u => ?_))))))))
 refine c_if (l != p) R a (fun a => ?_) (fun a => ?_)
 · refine c_sp (x_u 1 [(2, Vi 1)] (x_ek (c_ret (k_block_ret (k_then_ret (r_ret (r_vals [Vi 1] ⟨R, trivial⟩ ?_)))))))
   obtain rfl := some_inj a
   exact ⟨R, d⟩
 refine c_join (σ := Bool) (fun t => match t with | x => [(1, Vp b 0), (26, .bool x)]) (fun t r => match t with | x => r06_Valid_J7 m x = some y ∧ Ev [] o r ∧ MS r [[b], []] ∧ FR o.heap.size [[b]] ∧ r.heap[b]? = some (.cells #[Vs n, Vi j, Vi l, Vi e, Vi g, Vi h, .bool s, Vs m] 34 (0, 0))) ?_ ?_
 · refine c_plain (x_fieldAddr (xv := Vp b 0) (Vp b 1) R R R (reads_field tfld34_1 _ _) (x_load (xv := Vp b 1) (Vi j) R R R (reads_box tcell3 c nn 1 _ R) (x_u 3 [(29, Vi q), (30, .bool (decide (j < q))), (31, .bool (decide (j < q)))] (x_if 31 (decide (j < q)) R a (fun a => ?_) (fun a => ?_)))))
   · refine x_u 37 [(32, undef), (33, undef), (34, undef), (35, .bool true), (36, .bool true), (37, undef), (38, undef), (39, undef), (40, .bool true), (41, .bool true), (42, undef), (43, undef), (44, undef), (45, .bool true), (46, .bool true), (47, undef), (48, undef), (49, undef), (50, .bool true), (51, .bool true), (52, undef), (53, undef), (54, undef), (55, undef), (56, undef), (57, .bool true), (58, .bool true), (59, undef), (60, undef), (61, undef), (62, .bool true), (63, .bool true), (64, undef), (65, undef), (66, undef), (67, .bool true), (26, .bool true)] (x_end R ?_)
     exact k_then ⟨true, ⟨R, R, trivial⟩, a, d, i, k, c⟩
   refine x_fieldAddr (xv := Vp b 0) (Vp b 1) R R R (reads_field tfld34_1 _ _) (x_load (xv := Vp b 1) (Vi j) R R R (reads_box tcell3 c nn 1 _ R) (x_u 3 [(34, .bool (decide (j > 400))), (35, .bool (decide (j > 400))), (36, .bool (decide (j > 400)))] (x_if 36 (decide (j > 400)) R a (fun a => ?_) (fun a => ?_))))
   · refine x_u 32 [(37, undef), (38, undef), (39, undef), (40, .bool true), (41, .bool true), (42, undef), (43, undef), (44, undef), (45, .bool true), (46, .bool true), (47, undef), (48, undef), (49, undef), (50, .bool true), (51, .bool true), (52, undef), (53, undef), (54, undef), (55, undef), (56, undef), (57, .bool true), (58, .bool true), (59, undef), (60, undef), (61, undef), (62, .bool true), (63, .bool true), (64, undef), (65, undef), (66, undef), (67, .bool true), (26, .bool true)] (x_end R ?_)
     exact k_then ⟨true, ⟨R, R, trivial⟩, a, d, i, k, c⟩
   refine x_fieldAddr (xv := Vp b 0) (Vp b 3) R R R (reads_field tfld34_3 _ _) (x_load (xv := Vp b 3) (Vi e) R R R (reads_box tcell3 c nn 3 _ R) (x_u 3 [(39, .bool (decide (e < 50))), (40, .bool (decide (e < 50))), (41, .bool (decide (e < 50)))] (x_if 41 (decide (e < 50)) R a (fun a => ?_) (fun a => ?_))))
   · refine x_u 27 [(42, undef), (43, undef), (44, undef), (45, .bool true), (46, .bool true), (47, undef), (48, undef), (49, undef), (50, .bool true), (51, .bool true), (52, undef), (53, undef), (54, undef), (55, undef), (56, undef), (57, .bool true), (58, .bool true), (59, undef), (60, undef), (61, undef), (62, .bool true), (63, .bool true), (64, undef), (65, undef), (66, undef), (67, .bool true), (26, .bool true)] (x_end R ?_)
     exact k_then ⟨true, ⟨R, R, trivial⟩, a, d, i, k, c⟩
   refine x_fieldAddr (xv := Vp b 0) (Vp b 3) R R R (reads_field tfld34_3 _ _) (x_load (xv := Vp b 3) (Vi e) R R R (reads_box tcell3 c nn 3 _ R) (x_u 3 [(44, .bool (decide (e > 2000))), (45, .bool (decide (e > 2000))), (46, .bool (decide (e > 2000)))] (x_if 46 (decide (e > 2000)) R a (fun a => ?_) (fun a => ?_))))
   · refine x_u 22 [(47, undef), (48, undef), (49, undef), (50, .bool true), (51, .bool true), (52, undef), (53, undef), (54, undef), (55, undef), (56, undef), (57, .bool true), (58, .bool true), (59, undef), (60, undef), (61, undef), (62, .bool true), (63, .bool true), (64, undef), (65, undef), (66, undef), (67, .bool true), (26, .bool true)] (x_end R ?_)
     exact k_then ⟨true, ⟨R, R, trivial⟩, a, d, i, k, c⟩
   refine x_fieldAddr (xv := Vp b 0) (Vp b 4) R R R (reads_field tfld34_4 _ _) (x_load (xv := Vp b 4) (Vi g) R R R (reads_box tcell3 c nn 4 _ R) (x_u 3 [(49, .bool (decide (g < 0))), (50, .bool (decide (g < 0))), (51, .bool (decide (g < 0)))] (x_if 51 (decide (g < 0)) R a (fun a => ?_) (fun a => ?_))))
   · refine x_u 17 [(52, undef), (53, undef), (54, undef), (55, undef), (56, undef), (57, .bool true), (58, .bool true), (59, undef), (60, undef), (61, undef), (62, .bool true), (63, .bool true), (64, undef), (65, undef), (66, undef), (67, .bool true), (26, .bool true)] (x_end R ?_)
     exact k_then ⟨true, ⟨R, R, trivial⟩, a, d, i, k, c⟩
   refine x_fieldAddr (xv := Vp b 0) (Vp b 4) R R R (reads_field tfld34_4 _ _) (x_load (xv := Vp b 4) (Vi g) R R R (reads_box tcell3 c nn 4 _ R) (x_fieldAddr (xv := Vp b 0) (Vp b 3) R R R (reads_field tfld34_3 _ _) (x_load (xv := Vp b 3) (Vi e) R R R (reads_box tcell3 c nn 3 _ R) (x_u 3 [(56, .bool (decide (g > e))), (57, .bool (decide (g > e))), (58, .bool (decide (g > e)))] (x_if 58 (decide (g > e)) R a (fun a => ?_) (fun a => ?_))))))
   · refine x_u 10 [(59, undef), (60, undef), (61, undef), (62, .bool true), (63, .bool true), (64, undef), (65, undef), (66, undef), (67, .bool true), (26, .bool true)] (x_end R ?_)
     exact k_then ⟨true, ⟨R, R, trivial⟩, a, d, i, k, c⟩
   refine x_fieldAddr (xv := Vp b 0) (Vp b 5) R R R (reads_field tfld34_5 _ _) (x_load (xv := Vp b 5) (Vi h) R R R (reads_box tcell3 c nn 5 _ R) (x_u 3 [(61, .bool (decide (h < 0))), (62, .bool (decide (h < 0))), (63, .bool (decide (h < 0)))] (x_if 63 (decide (h < 0)) R a (fun a => ?_) (fun a => ?_))))
   · refine x_u 5 [(64, undef), (65, undef), (66, undef), (67, .bool true), (26, .bool true)] (x_end R ?_)
     exact k_then ⟨true, ⟨R, R, trivial⟩, a, d, i, k, c⟩
   refine x_fieldAddr (xv := Vp b 0) (Vp b 5) R R R (reads_field tfld34_5 _ _) (x_load (xv := Vp b 5) (Vi h) R R R (reads_box tcell3 c nn 5 _ R) (x_u 3 [(66, .bool (decide (h > 9))), (67, .bool (decide (h > 9))), (26, .bool (decide (h > 9)))] (x_end R ?_)))
   exact k_then ⟨decide (h > 9), ⟨R, R, trivial⟩, a, d, i, k, c⟩
 rintro x u I ⟨a, d, i, k, c⟩
 refine c_if x R a (fun a => ?_) (fun a => ?_)
 · refine c_sp (x_u 1 [(2, Vi 2)] (x_ek (c_nm [(2, Vi 2)] (fun u => ?_))))
   refine c_ret (k_block_ret (k_then_ret (r_ret (r_vals [Vi 2] ⟨R, trivial⟩ ?_))))
   obtain rfl := some_inj a
   exact ⟨R, d⟩
 refine c_sp (x_fieldAddr (xv := Vp b 0) (Vp b 7) R R R (reads_field tfld34_7 _ _) (x_load (xv := Vp b 7) (Vs m) R R R (reads_box tcell9 c nn 7 _ R) ?_))
 obtain ⟨z, w, a⟩ := bind_some a
 have v := r06_Name_w m _ I w
 refine x_call 77 #[] #[] [Vs m] _ R R R R v ?_
 rintro B O ⟨rfl, H⟩
 clear v w
 refine inl1 ?_
 replace d := d.ext H
 refine x_u 2 [(72, .bool (!z)), (68, .bool (!z))] (x_ek (c_nm [(68, .bool (!z))] (fun u => ?_)))
 refine c_if (!z) R a (fun a => ?_) (fun a => ?_)
 · refine c_sp (x_u 1 [(2, Vi 7)] (x_ek (c_ret (k_block_ret (k_then_ret (r_ret (r_vals [Vi 7] ⟨R, trivial⟩ ?_)))))))
   obtain rfl := some_inj a
   exact ⟨R, d⟩
 refine c_skip (k_block (k_then (c_sp (x_u 1 [(2, Vi 0)] (x_ek (c_ret (r_ret (r_vals [Vi 0] ⟨R, trivial⟩ ?_))))))))
 obtain rfl := some_inj a
 exact ⟨R, d⟩
end Go.Proofs.YtlejnkhaphlooaaGreat
