
/- Walks, printed by program: each function returns what the partial function of the same name returns. Conditions: those of each theorem. -/
import Derived.Test.YtlejnkhaphlooaaGreatGT
import Derived.Test.YtlejnkhaphlooaaGreatGwagonnumber
set_option linter.unusedVariables false
set_option linter.unusedSimpArgs false
set_option maxRecDepth 4000
namespace Go.Proofs.YtlejnkhaphlooaaGreat
open Go Go.V Go.Proofs Go.IntKind
def consist_axles (a : Int) : Option Int :=
(if (a == 2) = true then
some 2
else
(if (a == 3) = true then
some 6
else
some 4))
theorem consist_axles_w (a : Int) (f : Int) (c : World) (b : consist_axles a = some f) : CallVC Tryz.prog 73 [Vi a] c fun h i => h = Vi f ∧ Ev [] c i := by
 refine calls_vc hmx Tryz.func73 (by kernel_rfl) R (rs := [.tmp 2]) R (by kernel_rfl) (args := [Vi a]) R ?_
 have d : Ev [] c c := Ev.refl _ _
 have k : MS c [[]] := ⟨List.pairwise_singleton _ _, fun l e j g => by simp only [List.mem_singleton] at e; subst e; cases g⟩
 refine c_sp (x_u 1 [(2, Vi 0)] (x_ek (c_seq (c_sp (x_u 1 [(3, Vi a)] (x_ek (c_block (c_sp (x_u 2 [(5, .bool (a == 2)), (4, .bool (a == 2))] ?_)))))))))
 refine x_ek (c_if (a == 2) R b (fun b => ?_) (fun b => ?_))
 · refine c_sp (x_u 1 [(2, Vi 2)] (x_ek (c_ret (k_block_ret (k_then_ret (r_ret (r_vals [Vi 2] ⟨R, trivial⟩ ?_)))))))
   obtain rfl := some_inj b
   exact ⟨R, d⟩
 refine c_sp (x_u 2 [(7, .bool (a == 3)), (6, .bool (a == 3))] (x_ek (c_if (a == 3) R b (fun b => ?_) (fun b => ?_))))
 · refine c_sp (x_u 1 [(2, Vi 6)] (x_ek (c_ret (k_block_ret (k_then_ret (r_ret (r_vals [Vi 6] ⟨R, trivial⟩ ?_)))))))
   obtain rfl := some_inj b
   exact ⟨R, d⟩
 refine c_skip (k_block (k_then (c_sp (x_u 1 [(2, Vi 4)] (x_ek (c_ret (r_ret (r_vals [Vi 4] ⟨R, trivial⟩ ?_))))))))
 obtain rfl := some_inj b
 exact ⟨R, d⟩
def consist_name_L2 (c : List UInt8) (d : Int) : Option (Step Int (Unit ⊕ Unit)) :=
match d with
| b =>
(if (decide (b < (c.length : Int))) = true then
((sAt c b).bind fun a =>
(if (decide (a < 97)) = true then
(if (decide (a < 48)) = true then
some (.done (.inl ()))
else
(if (decide (a > 57)) = true then
some (.done (.inl ()))
else
some (.next (i64.wrap (b + 1)))))
else
(if (decide (a > 122)) = true then
(if (decide (a < 48)) = true then
some (.done (.inl ()))
else
(if (decide (a > 57)) = true then
some (.done (.inl ()))
else
some (.next (i64.wrap (b + 1)))))
else
some (.next (i64.wrap (b + 1))))))
else
some (.done (.inr ())))
def consist_name (a : List UInt8) : Option Bool :=
((loop (consist_name_L2 a) 0).bind fun b => match b with
| (.inl _) => some false
| (.inr _) => (if (decide ((a.length : Int) > 0)) = true then
some (decide ((a.length : Int) ≤ 12))
else
some false))
theorem consist_name_w (b : List UInt8) (r : Bool) (h : World) (a : consist_name b = some r) : CallVC Tryz.prog 74 [Vs b] h fun w o => w = .bool r ∧ Ev [] h o := by
 refine calls_vc hmx Tryz.func74 (by kernel_rfl) R (rs := [.tmp 2]) R (by kernel_rfl) (args := [Vs b]) R ?_
 have e : Ev [] h h := Ev.refl _ _
 have m : MS h [[]] := ⟨List.pairwise_singleton _ _, fun y q x t => by simp only [List.mem_singleton] at q; subst q; cases t⟩
 have l : FR h.heap.size [] := FR.nil _
 refine c_sp (x_u 1 [(2, .bool false)] (x_ek (c_seq (c_sp (x_u 1 [(3, Vi 0)] (x_ek (c_block ?_)))))))
 obtain ⟨s, p, k⟩ := bind_some a
 obtain ⟨j, p⟩ := loop_some p
 refine c_loop (loop_rule hmx (σ := Nat × Int) (fun n => match n with | (_, d) => [(0, Vs b), (3, Vi d)]) (fun n o => match n with | (v, d) => loopN (consist_name_L2 b) v d = some s ∧ Ev [] h o ∧ MS o [[]] ∧ FR h.heap.size []) (fun n => n.1) (j, 0) ⟨R, R, trivial⟩ ⟨p, e, m, l⟩ ?_)
 rintro ⟨j, d⟩ i A ⟨f, e, m, l⟩
 rcases j with _ | j
 · exact (loopN_zero f).elim
 obtain ⟨z, a, f⟩ := bind_some f
 refine c_seq (c_sp (x_u 2 [(5, Vi d), (6, Vs b)] (x_len (vs := [Vs b]) (Vi (b.length : Int)) R R R (reads_slen tstr9 _) (x_u 1 [(8, .bool (decide (d < (b.length : Int))))] (x_ek (c_nm [(0, Vs b), (3, Vi d), (8, .bool (decide (d < (b.length : Int))))] (fun i => ?_)))))))
 refine c_if (decide (d < (b.length : Int))) R a (fun a => ?_) (fun a => ?_)
 · refine c_skip (k_then (c_seq (c_block (c_sp (x_u 2 [(11, Vs b), (12, Vi d)] ?_)))))
   obtain ⟨c, u, a⟩ := bind_some a
   refine x_index (xv := Vs b) (yv := Vi d) (.int .u8 c) R R R R (reads_sindex tstr9 u) (x_u 1 [(4, .int .u8 c)] (x_ek (c_sp (x_u 3 [(14, .int .u8 c), (15, .bool (decide (c < 97))), (16, .bool (decide (c < 97)))] (x_if 16 (decide (c < 97)) R a (fun a => ?_) (fun a => ?_))))))
   · refine x_u 7 [(17, undef), (18, undef), (19, .bool true), (20, .bool true), (21, .int .u8 c), (22, .bool (decide (c < 48))), (23, .bool (decide (c < 48)))] (x_if 23 (decide (c < 48)) R a (fun a => ?_) (fun a => ?_))
     · refine x_u 4 [(24, undef), (25, undef), (26, .bool true), (27, .bool true)] (x_ek (c_nm [(0, Vs b), (3, Vi d), (27, .bool true)] (fun i => ?_)))
       refine c_true R (c_sp (x_u 1 [(2, .bool false)] (x_ek (c_ret (k_block_ret (k_then_ret ?_))))))
       obtain rfl := some_inj a
       have g := some_inj f
       subst g
       replace a := k
       refine k_then_ret (k_block_ret (k_then_ret (r_ret (r_vals [.bool false] ⟨R, trivial⟩ ?_))))
       obtain rfl := some_inj a
       exact ⟨R, e⟩
     refine x_u 4 [(24, .int .u8 c), (25, .bool (decide (c > 57))), (26, .bool (decide (c > 57))), (27, .bool (decide (c > 57)))] (x_ek (c_nm [(0, Vs b), (3, Vi d), (27, .bool (decide (c > 57)))] (fun i => ?_)))
     refine c_if (decide (c > 57)) R a (fun a => ?_) (fun a => ?_)
     · refine c_sp (x_u 1 [(2, .bool false)] (x_ek (c_ret (k_block_ret (k_then_ret ?_)))))
       obtain rfl := some_inj a
       have g := some_inj f
       subst g
       replace a := k
       refine k_then_ret (k_block_ret (k_then_ret (r_ret (r_vals [.bool false] ⟨R, trivial⟩ ?_))))
       obtain rfl := some_inj a
       exact ⟨R, e⟩
     refine c_skip (k_block (k_then (c_plain (x_u 3 [(9, Vi d), (10, Vi (i64.wrap (d + 1))), (3, Vi (i64.wrap (d + 1)))] (x_end R ?_)))))
     obtain rfl := some_inj a
     exact k_then ⟨(j, i64.wrap (d + 1)), ⟨R, R, trivial⟩, ⟨f, e, m, l⟩, Nat.lt_succ_self _⟩
   refine x_u 4 [(17, .int .u8 c), (18, .bool (decide (c > 122))), (19, .bool (decide (c > 122))), (20, .bool (decide (c > 122)))] (x_if 20 (decide (c > 122)) R a (fun a => ?_) (fun a => ?_))
   · refine x_u 3 [(21, .int .u8 c), (22, .bool (decide (c < 48))), (23, .bool (decide (c < 48)))] (x_if 23 (decide (c < 48)) R a (fun a => ?_) (fun a => ?_))
     · refine x_u 4 [(24, undef), (25, undef), (26, .bool true), (27, .bool true)] (x_ek (c_nm [(0, Vs b), (3, Vi d), (27, .bool true)] (fun i => ?_)))
       refine c_true R (c_sp (x_u 1 [(2, .bool false)] (x_ek (c_ret (k_block_ret (k_then_ret ?_))))))
       obtain rfl := some_inj a
       have g := some_inj f
       subst g
       replace a := k
       refine k_then_ret (k_block_ret (k_then_ret (r_ret (r_vals [.bool false] ⟨R, trivial⟩ ?_))))
       obtain rfl := some_inj a
       exact ⟨R, e⟩
     refine x_u 4 [(24, .int .u8 c), (25, .bool (decide (c > 57))), (26, .bool (decide (c > 57))), (27, .bool (decide (c > 57)))] (x_ek (c_nm [(0, Vs b), (3, Vi d), (27, .bool (decide (c > 57)))] (fun i => ?_)))
     refine c_if (decide (c > 57)) R a (fun a => ?_) (fun a => ?_)
     · refine c_sp (x_u 1 [(2, .bool false)] (x_ek (c_ret (k_block_ret (k_then_ret ?_)))))
       obtain rfl := some_inj a
       have g := some_inj f
       subst g
       replace a := k
       refine k_then_ret (k_block_ret (k_then_ret (r_ret (r_vals [.bool false] ⟨R, trivial⟩ ?_))))
       obtain rfl := some_inj a
       exact ⟨R, e⟩
     refine c_skip (k_block (k_then (c_plain (x_u 3 [(9, Vi d), (10, Vi (i64.wrap (d + 1))), (3, Vi (i64.wrap (d + 1)))] (x_end R ?_)))))
     obtain rfl := some_inj a
     exact k_then ⟨(j, i64.wrap (d + 1)), ⟨R, R, trivial⟩, ⟨f, e, m, l⟩, Nat.lt_succ_self _⟩
   refine x_u 7 [(21, undef), (22, undef), (23, undef), (24, undef), (25, undef), (26, undef), (27, .bool false)] (x_ek (c_nm [(0, Vs b), (3, Vi d), (27, .bool false)] (fun i => ?_)))
   refine c_false R (c_skip (k_block (k_then (c_plain (x_u 3 [(9, Vi d), (10, Vi (i64.wrap (d + 1))), (3, Vi (i64.wrap (d + 1)))] (x_end R ?_))))))
   obtain rfl := some_inj a
   exact k_then ⟨(j, i64.wrap (d + 1)), ⟨R, R, trivial⟩, ⟨f, e, m, l⟩, Nat.lt_succ_self _⟩
 refine c_exit (k_then_exit ?_)
 obtain rfl := some_inj a
 have g := some_inj f
 subst g
 replace a := k
 refine k_then_exit (k_block_in (k_then (c_nm [(0, Vs b)] (fun i => ?_))))
 refine c_sp (x_u 1 [(28, Vs b)] (x_len (vs := [Vs b]) (Vi (b.length : Int)) R R R (reads_slen tstr9 _) (x_u 2 [(30, .bool (decide ((b.length : Int) > 0))), (31, .bool (decide ((b.length : Int) > 0)))] (x_if 31 (decide ((b.length : Int) > 0)) R a (fun a => ?_) (fun a => ?_)))))
 · refine x_u 1 [(32, Vs b)] (x_len (vs := [Vs b]) (Vi (b.length : Int)) R R R (reads_slen tstr9 _) (x_u 3 [(34, .bool (decide ((b.length : Int) ≤ 12))), (35, .bool (decide ((b.length : Int) ≤ 12))), (2, .bool (decide ((b.length : Int) ≤ 12)))] (x_ek (c_ret (r_ret (r_vals [.bool (decide ((b.length : Int) ≤ 12))] ⟨R, trivial⟩ ?_))))))
   obtain rfl := some_inj a
   exact ⟨R, e⟩
 refine x_u 5 [(32, undef), (33, undef), (34, undef), (35, .bool false), (2, .bool false)] (x_ek (c_ret (r_ret (r_vals [.bool false] ⟨R, trivial⟩ ?_))))
 obtain rfl := some_inj a
 exact ⟨R, e⟩
def consist_Valid_J10 (a : List UInt8) (b : Bool) : Option Int :=
(if b = true then
some 2
else
((consist_name a).bind fun c =>
(if (!c) = true then
some 7
else
some 0)))
def consist_Valid_J9 (d : Int) (b : Int) (c : Int) (a : List UInt8) (e : Bool) : Option Int :=
(if e = true then
some 2
else
(if (decide (b < 0)) = true then
consist_Valid_J10 a true
else
(if (decide (b > d)) = true then
consist_Valid_J10 a true
else
(if (decide (c < 0)) = true then
consist_Valid_J10 a true
else
consist_Valid_J10 a (decide (c > 9))))))
def consist_Valid_J6 (e : Int) (g : Int) (a : Int) (b : Int) (c : Int) (d : List UInt8) (h : Int × Int) (f : Int) : Option Int :=
((consist_axles h.1).bind fun i =>
(if (g != i) = true then
some 1
else
(if (decide (e < f)) = true then
consist_Valid_J9 a b c d true
else
(if (decide (e > 400)) = true then
consist_Valid_J9 a b c d true
else
(if (decide (a < 50)) = true then
consist_Valid_J9 a b c d true
else
consist_Valid_J9 a b c d (decide (a > 2000)))))))
def consist_Valid (h : List UInt8) (b : Int) (c : Int) (d : Int) (e : Int) (f : Int) (i : Bool) (g : List UInt8) : Option Int :=
((wagonnumber_Kind h).bind fun a =>
(if (a.2 != 0) = true then
some a.2
else
(if (a.1 == 3) = true then
consist_Valid_J6 b c d e f g a 120
else
consist_Valid_J6 b c d e f g a 80)))
theorem consist_Valid_w (p : List UInt8) (j : Int) (l : Int) (e : Int) (i : Int) (h : Int) (v : Bool) (m : List UInt8) (w : Int) (o : World) (a : consist_Valid p j l e i h v m = some w) : CallVC Tryz.prog 43 [.agg #[Vs p, Vi j, Vi l, Vi e, Vi i, Vi h, .bool v, Vs m]] o fun A n => A = Vi w ∧ Ev [] o n := by
 refine calls_vc hmx Tryz.func43 (by kernel_rfl) R (rs := [.tmp 2]) R (by kernel_rfl) (args := [.agg #[Vs p, Vi j, Vi l, Vi e, Vi i, Vi h, .bool v, Vs m]]) R ?_
 have d : Ev [] o o := Ev.refl _ _
 have g : MS o [[]] := ⟨List.pairwise_singleton _ _, fun Q G N J => by simp only [List.mem_singleton] at G; subst G; cases J⟩
 have k : FR o.heap.size [] := FR.nil _
 refine c_sp (x_box (xv := .agg #[Vs p, Vi j, Vi l, Vi e, Vi i, Vi h, .bool v, Vs m]) R R R (fun b I H c F O => ?_))
 replace c : I.heap[b]? = some (.cells #[Vs p, Vi j, Vi l, Vi e, Vi i, Vi h, .bool v, Vs m] 34 (0, 0)) := c
 refine inl1 ?_
 replace g := g.box F H c
 replace k := k.box d.size H
 replace d := d.ext F
 refine x_u 1 [(2, Vi 0)] (x_ek (c_sp (x_fieldAddr (xv := Vp b 0) (Vp b 0) R R R (reads_field tfld34_0 _ _) (x_load (xv := Vp b 0) (Vs p) R R R (reads_box tcell9 c nn 0 _ R) ?_))))
 obtain ⟨f, u, a⟩ := bind_some a
 have t := wagonnumber_Kind_w p _ I u
 refine x_call 72 #[] #[] [Vs p] _ R R R R t ?_
 rintro A U ⟨rfl, E⟩
 clear t u
 refine inl1 ?_
 replace c := E.box c nn
 replace g := g.ev E
 replace d := d.ext E
 refine x_u 5 [(6, .tuple #[Vi f.1, Vi f.2]), (10, Vi f.1), (11, Vi f.2), (3, Vi f.1), (4, Vi f.2)] (x_ek (c_seq (c_sp (x_u 2 [(12, Vi f.2), (13, .bool (f.2 != 0))] (x_ek (c_if (f.2 != 0) R a (fun a => ?_) (fun a => ?_)))))))
 · refine c_sp (x_u 2 [(14, Vi f.2), (2, Vi f.2)] (x_ek (c_nm [(2, Vi f.2)] (fun s => ?_))))
   refine c_ret (k_then_ret (r_ret (r_vals [Vi f.2] ⟨R, trivial⟩ ?_)))
   obtain rfl := some_inj a
   exact ⟨R, d⟩
 refine c_skip (k_then (c_sp (x_u 1 [(5, Vi 80)] (x_ek (c_nm [(1, Vp b 0), (3, Vi f.1), (5, Vi 80)] (fun s => ?_))))))
 refine c_join (σ := Int) (fun q => match q with | r => [(1, Vp b 0), (3, Vi f.1), (5, Vi r)]) (fun q n => match q with | r => consist_Valid_J6 j l e i h m f r = some w ∧ Ev [] o n ∧ MS n [[b], []] ∧ FR o.heap.size [[b]] ∧ n.heap[b]? = some (.cells #[Vs p, Vi j, Vi l, Vi e, Vi i, Vi h, .bool v, Vs m] 34 (0, 0))) ?_ ?_
 · refine c_sp (x_u 2 [(15, Vi f.1), (16, .bool (f.1 == 3))] (x_ek (c_if (f.1 == 3) R a (fun a => ?_) (fun a => ?_))))
   · refine c_plain (x_u 1 [(5, Vi 120)] (x_end R ?_))
     exact k_then ⟨120, ⟨R, R, R, trivial⟩, a, d, g, k, c⟩
   refine c_skip ?_
   exact k_then ⟨80, ⟨R, R, R, trivial⟩, a, d, g, k, c⟩
 rintro r s B ⟨a, d, g, k, c⟩
 refine c_seq (c_block (c_seq (c_drawn [] [(0, false), (1, false), (2, false), (3, false), (4, false), (5, false)] _ (by kernel_rfl) R ?_)))
 replace c := (Ev.drew B).box c nn
 replace g := g.ev (Ev.drew B)
 replace d := d.ext (Ev.drew B)
 refine x_fieldAddr (xv := Vp b 0) (Vp b 2) R R R (reads_field tfld34_2 _ _) (x_load (xv := Vp b 2) (Vi l) R R R (reads_box tcell3 c nn 2 _ R) (x_u 1 [(20, Vi f.1)] ?_))
 obtain ⟨D, u, a⟩ := bind_some a
 have t := consist_axles_w f.1 _ (B).drew u
 refine x_call 73 #[] #[] [Vi f.1] _ R R R R t ?_
 rintro A X ⟨rfl, z⟩
 clear t u
 refine ⟨.inr z, ?_⟩
 replace c := z.box c nn
 replace g := g.ev z
 replace d := d.ext z
 refine x_u 2 [(22, .bool (l != D)), (17, .bool (l != D))] (x_ek (c_nm [(1, Vp b 0), (5, Vi r), (17, .bool (l != D))] (fun s => ?_)))
 refine c_if (l != D) R a (fun a => ?_) (fun a => ?_)
 · refine c_sp (x_u 1 [(2, Vi 1)] (x_ek (c_ret (k_block_ret (k_then_ret (r_ret (r_vals [Vi 1] ⟨R, trivial⟩ ?_)))))))
   obtain rfl := some_inj a
   exact ⟨R, d⟩
 refine c_join (σ := Bool) (fun q => match q with | x => [(1, Vp b 0), (23, .bool x)]) (fun q n => match q with | x => consist_Valid_J9 e i h m x = some w ∧ Ev [] o n ∧ MS n [[b], []] ∧ FR o.heap.size [[b]] ∧ n.heap[b]? = some (.cells #[Vs p, Vi j, Vi l, Vi e, Vi i, Vi h, .bool v, Vs m] 34 (0, 0))) ?_ ?_
 · refine c_plain (x_fieldAddr (xv := Vp b 0) (Vp b 1) R R R (reads_field tfld34_1 _ _) (x_load (xv := Vp b 1) (Vi j) R R R (reads_box tcell3 c nn 1 _ R) (x_u 3 [(26, Vi r), (27, .bool (decide (j < r))), (28, .bool (decide (j < r)))] (x_if 28 (decide (j < r)) R a (fun a => ?_) (fun a => ?_)))))
   · refine x_u 15 [(29, undef), (30, undef), (31, undef), (32, .bool true), (33, .bool true), (34, undef), (35, undef), (36, undef), (37, .bool true), (38, .bool true), (39, undef), (40, undef), (41, undef), (42, .bool true), (23, .bool true)] (x_end R ?_)
     exact k_then ⟨true, ⟨R, R, trivial⟩, a, d, g, k, c⟩
   refine x_fieldAddr (xv := Vp b 0) (Vp b 1) R R R (reads_field tfld34_1 _ _) (x_load (xv := Vp b 1) (Vi j) R R R (reads_box tcell3 c nn 1 _ R) (x_u 3 [(31, .bool (decide (j > 400))), (32, .bool (decide (j > 400))), (33, .bool (decide (j > 400)))] (x_if 33 (decide (j > 400)) R a (fun a => ?_) (fun a => ?_))))
   · refine x_u 10 [(34, undef), (35, undef), (36, undef), (37, .bool true), (38, .bool true), (39, undef), (40, undef), (41, undef), (42, .bool true), (23, .bool true)] (x_end R ?_)
     exact k_then ⟨true, ⟨R, R, trivial⟩, a, d, g, k, c⟩
   refine x_fieldAddr (xv := Vp b 0) (Vp b 3) R R R (reads_field tfld34_3 _ _) (x_load (xv := Vp b 3) (Vi e) R R R (reads_box tcell3 c nn 3 _ R) (x_u 3 [(36, .bool (decide (e < 50))), (37, .bool (decide (e < 50))), (38, .bool (decide (e < 50)))] (x_if 38 (decide (e < 50)) R a (fun a => ?_) (fun a => ?_))))
   · refine x_u 5 [(39, undef), (40, undef), (41, undef), (42, .bool true), (23, .bool true)] (x_end R ?_)
     exact k_then ⟨true, ⟨R, R, trivial⟩, a, d, g, k, c⟩
   refine x_fieldAddr (xv := Vp b 0) (Vp b 3) R R R (reads_field tfld34_3 _ _) (x_load (xv := Vp b 3) (Vi e) R R R (reads_box tcell3 c nn 3 _ R) (x_u 3 [(41, .bool (decide (e > 2000))), (42, .bool (decide (e > 2000))), (23, .bool (decide (e > 2000)))] (x_end R ?_)))
   exact k_then ⟨decide (e > 2000), ⟨R, R, trivial⟩, a, d, g, k, c⟩
 rintro x s Y ⟨a, d, g, k, c⟩
 refine c_if x R a (fun a => ?_) (fun a => ?_)
 · refine c_sp (x_u 1 [(2, Vi 2)] (x_ek (c_nm [(2, Vi 2)] (fun s => ?_))))
   refine c_ret (k_block_ret (k_then_ret (r_ret (r_vals [Vi 2] ⟨R, trivial⟩ ?_))))
   obtain rfl := some_inj a
   exact ⟨R, d⟩
 refine c_join (σ := Bool) (fun q => match q with | y => [(1, Vp b 0), (43, .bool y)]) (fun q n => match q with | y => consist_Valid_J10 m y = some w ∧ Ev [] o n ∧ MS n [[b], []] ∧ FR o.heap.size [[b]] ∧ n.heap[b]? = some (.cells #[Vs p, Vi j, Vi l, Vi e, Vi i, Vi h, .bool v, Vs m] 34 (0, 0))) ?_ ?_
 · refine c_plain (x_fieldAddr (xv := Vp b 0) (Vp b 4) R R R (reads_field tfld34_4 _ _) (x_load (xv := Vp b 4) (Vi i) R R R (reads_box tcell3 c nn 4 _ R) (x_u 2 [(46, .bool (decide (i < 0))), (47, .bool (decide (i < 0)))] (x_if 47 (decide (i < 0)) R a (fun a => ?_) (fun a => ?_)))))
   · refine x_u 17 [(48, undef), (49, undef), (50, undef), (51, undef), (52, undef), (53, .bool true), (54, .bool true), (55, undef), (56, undef), (57, undef), (58, .bool true), (59, .bool true), (60, undef), (61, undef), (62, undef), (63, .bool true), (43, .bool true)] (x_end R ?_)
     exact k_then ⟨true, ⟨R, R, trivial⟩, a, d, g, k, c⟩
   refine x_fieldAddr (xv := Vp b 0) (Vp b 4) R R R (reads_field tfld34_4 _ _) (x_load (xv := Vp b 4) (Vi i) R R R (reads_box tcell3 c nn 4 _ R) (x_fieldAddr (xv := Vp b 0) (Vp b 3) R R R (reads_field tfld34_3 _ _) (x_load (xv := Vp b 3) (Vi e) R R R (reads_box tcell3 c nn 3 _ R) (x_u 3 [(52, .bool (decide (i > e))), (53, .bool (decide (i > e))), (54, .bool (decide (i > e)))] (x_if 54 (decide (i > e)) R a (fun a => ?_) (fun a => ?_))))))
   · refine x_u 10 [(55, undef), (56, undef), (57, undef), (58, .bool true), (59, .bool true), (60, undef), (61, undef), (62, undef), (63, .bool true), (43, .bool true)] (x_end R ?_)
     exact k_then ⟨true, ⟨R, R, trivial⟩, a, d, g, k, c⟩
   refine x_fieldAddr (xv := Vp b 0) (Vp b 5) R R R (reads_field tfld34_5 _ _) (x_load (xv := Vp b 5) (Vi h) R R R (reads_box tcell3 c nn 5 _ R) (x_u 3 [(57, .bool (decide (h < 0))), (58, .bool (decide (h < 0))), (59, .bool (decide (h < 0)))] (x_if 59 (decide (h < 0)) R a (fun a => ?_) (fun a => ?_))))
   · refine x_u 5 [(60, undef), (61, undef), (62, undef), (63, .bool true), (43, .bool true)] (x_end R ?_)
     exact k_then ⟨true, ⟨R, R, trivial⟩, a, d, g, k, c⟩
   refine x_fieldAddr (xv := Vp b 0) (Vp b 5) R R R (reads_field tfld34_5 _ _) (x_load (xv := Vp b 5) (Vi h) R R R (reads_box tcell3 c nn 5 _ R) (x_u 3 [(62, .bool (decide (h > 9))), (63, .bool (decide (h > 9))), (43, .bool (decide (h > 9)))] (x_end R ?_)))
   exact k_then ⟨decide (h > 9), ⟨R, R, trivial⟩, a, d, g, k, c⟩
 rintro y s L ⟨a, d, g, k, c⟩
 refine c_if y R a (fun a => ?_) (fun a => ?_)
 · refine c_sp (x_u 1 [(2, Vi 2)] (x_ek (c_nm [(2, Vi 2)] (fun s => ?_))))
   refine c_ret (k_block_ret (k_then_ret (r_ret (r_vals [Vi 2] ⟨R, trivial⟩ ?_))))
   obtain rfl := some_inj a
   exact ⟨R, d⟩
 refine c_sp (x_fieldAddr (xv := Vp b 0) (Vp b 7) R R R (reads_field tfld34_7 _ _) (x_load (xv := Vp b 7) (Vs m) R R R (reads_box tcell9 c nn 7 _ R) ?_))
 obtain ⟨C, u, a⟩ := bind_some a
 have t := consist_name_w m _ L u
 refine x_call 74 #[] #[] [Vs m] _ R R R R t ?_
 rintro A S ⟨rfl, K⟩
 clear t u
 refine inl1 ?_
 replace d := d.ext K
 refine x_u 2 [(68, .bool (!C)), (64, .bool (!C))] (x_ek (c_nm [(64, .bool (!C))] (fun s => ?_)))
 refine c_if (!C) R a (fun a => ?_) (fun a => ?_)
 · refine c_sp (x_u 1 [(2, Vi 7)] (x_ek (c_ret (k_block_ret (k_then_ret (r_ret (r_vals [Vi 7] ⟨R, trivial⟩ ?_)))))))
   obtain rfl := some_inj a
   exact ⟨R, d⟩
 refine c_skip (k_block (k_then (c_sp (x_u 1 [(2, Vi 0)] (x_ek (c_ret (r_ret (r_vals [Vi 0] ⟨R, trivial⟩ ?_))))))))
 obtain rfl := some_inj a
 exact ⟨R, d⟩
end Go.Proofs.YtlejnkhaphlooaaGreat
