
/- Walks, printed by program: each function returns what the partial function of the same name returns. Conditions: those of each theorem. -/
import Derived.Test.YtlejnkhaphlooaaGreatGT
import Derived.Test.YtlejnkhaphlooaaGreatGslassign
import Derived.Test.YtlejnkhaphlooaaGreatGslices
set_option linter.unusedVariables false
set_option linter.unusedSimpArgs false
set_option maxRecDepth 4000
namespace Go.Proofs.YtlejnkhaphlooaaGreat
open Go Go.V Go.Proofs Go.IntKind
def assign_check_L9 (b : List Int) (d : Int) : Option (Step Int (Unit ⊕ Unit)) :=
match d with
| a =>
(if (decide (a < ((b).length : Int))) = true then
((idx b a).bind fun c =>
(if (decide (c < 1)) = true then
some (.done (.inl ()))
else
(if (decide (c > 38400)) = true then
some (.done (.inl ()))
else
some (.next (i64.wrap (a + 1))))))
else
some (.done (.inr ())))
def assign_check_L5 (b : List Int) (d : Int) : Option (Step Int (Unit ⊕ Unit)) :=
match d with
| a =>
(if (decide (a < ((b).length : Int))) = true then
((idx b a).bind fun c =>
(if (decide (c < 0)) = true then
some (.done (.inl ()))
else
(if (decide (c > 38400)) = true then
some (.done (.inl ()))
else
some (.next (i64.wrap (a + 1))))))
else
some (.done (.inr ())))
def assign_check (b : List Int) (c : List Int) : Option Int :=
(if (decide (((b).length : Int) > 32)) = true then
some 3
else
(if (decide (((c).length : Int) > 32)) = true then
some 3
else
((loop (assign_check_L5 b) 0).bind fun a => match a with
| (.inl _) => some 2
| (.inr _) => ((loop (assign_check_L9 c) 0).bind fun a => match a with
| (.inl _) => some 2
| (.inr _) => some 0))))
theorem assign_check_w (g : Option Addr) (h : Nat) (c : List Int) (d : Option Addr) (e : Nat) (b : List Int) (I : Int) (k : World) (q : List Nat) (w : MS k [q]) (z : SlR (eInt .i64) k (fl [q]) g h c) (t : SlR (eInt .i64) k (fl [q]) d e b) (a : assign_check c b = some I) : CallVC Tryz.prog 71 [Vl g c h, Vl d b e] k fun X n => X = Vi I ∧ Ev [] k n := by
 refine calls_vc hmx Tryz.func71 (by kernel_rfl) R (rs := [.tmp 4]) R (by kernel_rfl) (args := [Vl g c h, Vl d b e]) R ?_
 have f : Ev [] k k := Ev.refl _ _
 have v : FR k.heap.size [] := FR.nil _
 refine c_sp (x_u 1 [(4, Vi 0)] (x_ek (c_seq (c_sp (x_u 1 [(9, Vl g c h)] (x_len (vs := [Vl g c h]) (Vi ((c).length : Int)) R R R (reads_len tsl22 _ _ _ _ _) (x_u 2 [(11, .bool (decide (((c).length : Int) > 32))), (12, .bool (decide (((c).length : Int) > 32)))] (x_if 12 (decide (((c).length : Int) > 32)) R a (fun a => ?_) (fun a => ?_)))))))))
 · refine x_u 4 [(13, undef), (14, undef), (15, undef), (16, .bool true)] (x_ek (c_true R (c_sp (x_u 1 [(4, Vi 3)] (x_ek (c_ret (k_then_ret (r_ret (r_vals [Vi 3] ⟨R, trivial⟩ ?_)))))))))
   obtain rfl := some_inj a
   exact ⟨R, f⟩
 refine x_u 1 [(13, Vl d b e)] (x_len (vs := [Vl d b e]) (Vi ((b).length : Int)) R R R (reads_len tsl22 _ _ _ _ _) (x_u 2 [(15, .bool (decide (((b).length : Int) > 32))), (16, .bool (decide (((b).length : Int) > 32)))] (x_ek (c_if (decide (((b).length : Int) > 32)) R a (fun a => ?_) (fun a => ?_)))))
 · refine c_sp (x_u 1 [(4, Vi 3)] (x_ek (c_ret (k_then_ret (r_ret (r_vals [Vi 3] ⟨R, trivial⟩ ?_))))))
   obtain rfl := some_inj a
   exact ⟨R, f⟩
 refine c_skip (k_then (c_seq (c_sp (x_u 1 [(17, Vl g c h)] (x_len (vs := [Vl g c h]) (Vi ((c).length : Int)) R R R (reads_len tsl22 _ _ _ _ _) (x_u 1 [(19, Vi 0)] (x_ek (c_nm [(1, Vl d b e), (17, Vl g c h), (18, Vi ((c).length : Int)), (19, Vi 0)] (fun u => ?_)))))))))
 refine c_block ?_
 obtain ⟨J, D, A⟩ := bind_some a
 obtain ⟨x, D⟩ := loop_some D
 refine c_loop (loop_rule hmx (σ := Nat × Int) (fun m => match m with | (_, i) => [(1, Vl d b e), (17, Vl g c h), (18, Vi ((c).length : Int)), (19, Vi i)]) (fun m n => match m with | (F, i) => loopN (assign_check_L5 c) F i = some J ∧ Ev [] k n ∧ MS n [q] ∧ FR k.heap.size [] ∧ SlR (eInt .i64) n (fl [q]) d e b ∧ SlR (eInt .i64) n (fl [q]) g h c) (fun m => m.1) (x, 0) ⟨R, R, R, R, trivial⟩ ⟨D, f, w, v, t, z⟩ ?_)
 rintro ⟨x, i⟩ u ac ⟨r, f, w, v, t, z⟩
 rcases x with _ | x
 · exact (loopN_zero r).elim
 obtain ⟨aa, a, r⟩ := bind_some r
 refine c_sp (x_u 1 [(20, .bool (decide (i < ((c).length : Int))))] (x_ek (c_nm [(1, Vl d b e), (17, Vl g c h), (18, Vi ((c).length : Int)), (19, Vi i), (20, .bool (decide (i < ((c).length : Int))))] (fun u => ?_))))
 refine c_seq (c_if (decide (i < ((c).length : Int))) R a (fun a => ?_) (fun a => ?_))
 · refine c_skip (k_then (c_seq (c_block (c_sp ?_))))
   obtain ⟨p, U, a⟩ := bind_some a
   obtain ⟨H, Z, Q, N, C⟩ := reads_index (Mo := []) tsl22 z U
   obtain rfl := C
   refine x_indexAddr (xv := Vl g c h) (yv := Vi i) (.pointer (some H)) R R R R Q (x_load (xv := .pointer (some H)) (Vi p) R R R (reads_cell0 tcell3 N (fun _ a => by cases a)) ?_)
   refine x_u 1 [(6, Vi p)] (x_ek (c_sp (x_u 3 [(23, Vi p), (24, .bool (decide (p < 0))), (25, .bool (decide (p < 0)))] (x_if 25 (decide (p < 0)) R a (fun a => ?_) (fun a => ?_)))))
   · refine x_u 3 [(26, undef), (27, undef), (28, .bool true)] (x_ek (c_true R (c_sp (x_u 1 [(4, Vi 2)] (x_ek (c_ret (k_block_ret (k_then_ret ?_))))))))
     obtain rfl := some_inj a
     have l := some_inj r
     subst l
     replace a := A
     refine k_then_ret (k_block_ret (k_then_ret (r_ret (r_vals [Vi 2] ⟨R, trivial⟩ ?_))))
     obtain rfl := some_inj a
     exact ⟨R, f⟩
   refine x_u 3 [(26, Vi p), (27, .bool (decide (p > 38400))), (28, .bool (decide (p > 38400)))] (x_ek (c_if (decide (p > 38400)) R a (fun a => ?_) (fun a => ?_)))
   · refine c_sp (x_u 1 [(4, Vi 2)] (x_ek (c_ret (k_block_ret (k_then_ret ?_)))))
     obtain rfl := some_inj a
     have l := some_inj r
     subst l
     replace a := A
     refine k_then_ret (k_block_ret (k_then_ret (r_ret (r_vals [Vi 2] ⟨R, trivial⟩ ?_))))
     obtain rfl := some_inj a
     exact ⟨R, f⟩
   refine c_skip (k_block (k_then (c_plain (x_u 2 [(29, Vi (i64.wrap (i + 1))), (19, Vi (i64.wrap (i + 1)))] (x_end R ?_)))))
   obtain rfl := some_inj a
   exact k_then ⟨(x, i64.wrap (i + 1)), ⟨R, R, R, R, trivial⟩, ⟨r, f, w, v, t, z⟩, Nat.lt_succ_self _⟩
 refine c_exit (k_then_exit ?_)
 obtain rfl := some_inj a
 have l := some_inj r
 subst l
 replace a := A
 refine k_then_exit (k_block_in (k_then (c_nm [(1, Vl d b e)] (fun u => ?_))))
 refine c_seq (c_sp (x_u 1 [(30, Vl d b e)] (x_len (vs := [Vl d b e]) (Vi ((b).length : Int)) R R R (reads_len tsl22 _ _ _ _ _) (x_u 1 [(32, Vi 0)] (x_ek (c_block ?_))))))
 obtain ⟨K, E, B⟩ := bind_some a
 obtain ⟨y, E⟩ := loop_some E
 refine c_loop (loop_rule hmx (σ := Nat × Int) (fun m => match m with | (_, j) => [(30, Vl d b e), (31, Vi ((b).length : Int)), (32, Vi j)]) (fun m n => match m with | (F, j) => loopN (assign_check_L9 b) F j = some K ∧ Ev [] k n ∧ MS n [q] ∧ FR k.heap.size [] ∧ SlR (eInt .i64) n (fl [q]) d e b) (fun m => m.1) (y, 0) ⟨R, R, R, trivial⟩ ⟨E, f, w, v, t⟩ ?_)
 rintro ⟨y, j⟩ u ad ⟨s, f, w, v, t⟩
 rcases y with _ | y
 · exact (loopN_zero s).elim
 obtain ⟨ab, a, s⟩ := bind_some s
 refine c_sp (x_u 1 [(33, .bool (decide (j < ((b).length : Int))))] (x_ek (c_nm [(30, Vl d b e), (31, Vi ((b).length : Int)), (32, Vi j), (33, .bool (decide (j < ((b).length : Int))))] (fun u => ?_))))
 refine c_seq (c_if (decide (j < ((b).length : Int))) R a (fun a => ?_) (fun a => ?_))
 · refine c_skip (k_then (c_seq (c_block (c_sp ?_))))
   obtain ⟨o, S, a⟩ := bind_some a
   obtain ⟨G, Y, O, L, C⟩ := reads_index (Mo := []) tsl22 t S
   obtain rfl := C
   refine x_indexAddr (xv := Vl d b e) (yv := Vi j) (.pointer (some G)) R R R R O (x_load (xv := .pointer (some G)) (Vi o) R R R (reads_cell0 tcell3 L (fun _ a => by cases a)) ?_)
   refine x_u 1 [(8, Vi o)] (x_ek (c_sp (x_u 3 [(36, Vi o), (37, .bool (decide (o < 1))), (38, .bool (decide (o < 1)))] (x_if 38 (decide (o < 1)) R a (fun a => ?_) (fun a => ?_)))))
   · refine x_u 3 [(39, undef), (40, undef), (41, .bool true)] (x_ek (c_true R (c_sp (x_u 1 [(4, Vi 2)] (x_ek (c_ret (k_block_ret (k_then_ret ?_))))))))
     obtain rfl := some_inj a
     have l := some_inj s
     subst l
     replace a := B
     refine k_then_ret (k_block_ret (k_then_ret (r_ret (r_vals [Vi 2] ⟨R, trivial⟩ ?_))))
     obtain rfl := some_inj a
     exact ⟨R, f⟩
   refine x_u 3 [(39, Vi o), (40, .bool (decide (o > 38400))), (41, .bool (decide (o > 38400)))] (x_ek (c_if (decide (o > 38400)) R a (fun a => ?_) (fun a => ?_)))
   · refine c_sp (x_u 1 [(4, Vi 2)] (x_ek (c_ret (k_block_ret (k_then_ret ?_)))))
     obtain rfl := some_inj a
     have l := some_inj s
     subst l
     replace a := B
     refine k_then_ret (k_block_ret (k_then_ret (r_ret (r_vals [Vi 2] ⟨R, trivial⟩ ?_))))
     obtain rfl := some_inj a
     exact ⟨R, f⟩
   refine c_skip (k_block (k_then (c_plain (x_u 2 [(42, Vi (i64.wrap (j + 1))), (32, Vi (i64.wrap (j + 1)))] (x_end R ?_)))))
   obtain rfl := some_inj a
   exact k_then ⟨(y, i64.wrap (j + 1)), ⟨R, R, R, trivial⟩, ⟨s, f, w, v, t⟩, Nat.lt_succ_self _⟩
 refine c_exit (k_then_exit ?_)
 obtain rfl := some_inj a
 have l := some_inj s
 subst l
 replace a := B
 refine k_then_exit (k_block_in (k_then (c_norm [] trivial (fun u => ?_))))
 refine c_sp (x_u 1 [(4, Vi 0)] (x_ek (c_ret (r_ret (r_vals [Vi 0] ⟨R, trivial⟩ ?_)))))
 obtain rfl := some_inj a
 exact ⟨R, f⟩
def assign_order_L5 (c : List Int) (d : (List Int) × Int) : Option (Step ((List Int) × Int) (List Int)) :=
match d with
| (b, a) =>
(if (decide (a < ((c).length : Int))) = true then
((idx c a).bind fun e =>
(if (decide (e > 0)) = true then
(if b.length + ([a]).length ≤ 4294967296 then
some (.next ((b ++ [a]), i64.wrap (a + 1)))
else none)
else
some (.next (b, i64.wrap (a + 1)))))
else
some (.done b))
def assign_order (b : List Int) : Option (List Int) :=
((loop (assign_order_L5 b) (([] : List Int), 0)).bind fun d => match d with
| a => ((slices_SortStableFunc_int_int_ a b).bind fun c =>
(if c.length = a.length then
some c
else none)))
theorem assign_order_w (q : Option Addr) (r : Nat) (g : List Int) (ab : (List Int)) (s : World) (e : List Nat) (h : MS s [e]) (n : SlR (eInt .i64) s (fl [e]) q r g) (d : assign_order g = some ab) : CallVC Tryz.prog 117 [.slice q (g).length r] s fun ar w => ∃ (B : Option Addr), ∃ (ah : Nat), ar = .slice B (ab).length ah ∧ Ev [] s w ∧ MS w [blk B, e] ∧ FR s.heap.size [blk B] ∧ OwnS (eInt .i64) 3 w (fl [blk B, e]) B ah ab := by
 refine calls_vc hmx Tryz.func117 (by kernel_rfl) R (rs := [.tmp 2]) R (by kernel_rfl) (args := [.slice q (g).length r]) R ?_
 have k : Ev [] s s := Ev.refl _ _
 have m : FR s.heap.size [] := FR.nil _
 refine c_sp (x_box (xv := .slice q (g).length r) R R R (fun b ad Z p S aX => ?_))
 replace p : ad.heap[b]? = some (.cells #[.slice q (g).length r] 22 (0, 0)) := p
 refine inl1 ?_
 have u := Stp.box (ls := [e]) S Z
 replace n := n.step u
 replace h := h.box S Z p
 replace m := m.box k.size Z
 replace k := k.ext S
 refine x_u 1 [(2, .slice none 0 0)] (x_ek (c_sp (x_u 1 [(3, .slice none 0 0)] (x_ek (c_seq (c_sp (x_load (xv := Vp b 0) (.slice q (g).length r) R R R (reads_box tcell22 p nn 0 _ R) (x_len (vs := [.slice q (g).length r]) (Vi ((g).length : Int)) R R R (reads_len tsl22 _ _ _ _ _) (x_u 1 [(8, Vi 0)] ?_)))))))))
 refine x_ek (c_block ?_)
 have u := Stp.push (ls := [[b], e]) (l := blk none) (Ev.refl [] ad) (fun _ d => by cases d) (fun _ d => by cases d)
 replace n := n.step u
 replace p := (Ev.refl [] _).box p nn
 replace h := h.push (l := blk none) (Ev.refl [] _) (fun _ d => by cases d)
 replace m := m.push (l := blk none) (fun _ d => by cases d)
 have Y := OwnS.nil (eInt .i64) 3 ad (fl [blk none, [b], e])
 have E := h.pick [some 1, some 0, some 2] [[b], blk none, e] R
 have F := pick_sub (ls := [blk none, [b], e]) [some 1, some 0, some 2] [[b], blk none, e] R
 replace n := n.sub F
 replace Y := Y.sub F
 replace h := E
 replace m := m.pick [some 1, some 0] [[b], blk none] R
 clear E F
 obtain ⟨av, Q, aw⟩ := bind_some d
 obtain ⟨z, Q⟩ := loop_some Q
 refine c_loop (loop_rule hmx (σ := Nat × (List Int) × Int × Option Addr × Nat) (fun G => match G with | (_, j, f, a, i) => [(1, Vp b 0), (3, .slice a (j).length i), (6, .slice q (g).length r), (7, Vi ((g).length : Int)), (8, Vi f)]) (fun G w => match G with | (aL, j, f, a, i) => loopN (assign_order_L5 g) aL (j, f) = some av ∧ Ev [] s w ∧ MS w [[b], blk a, e] ∧ FR s.heap.size [[b], blk a] ∧ SlR (eInt .i64) w (fl [[b], blk a, e]) q r g ∧ w.heap[b]? = some (.cells #[.slice q (g).length r] 22 (0, 0)) ∧ OwnS (eInt .i64) 3 w (fl [[b], blk a, e]) a i j) (fun G => G.1) (z, ([] : List Int), 0, none, 0) ⟨R, R, R, R, R, trivial⟩ ⟨Q, k, h, m, n, p, Y⟩ ?_)
 rintro ⟨z, j, f, a, i⟩ L ae ⟨y, k, h, m, n, p, v⟩
 rcases z with _ | z
 · exact (loopN_zero y).elim
 obtain ⟨aY, d, y⟩ := bind_some y
 refine c_sp (x_u 1 [(9, .bool (decide (f < ((g).length : Int))))] (x_ek (c_nm [(1, Vp b 0), (3, .slice a (j).length i), (6, .slice q (g).length r), (7, Vi ((g).length : Int)), (8, Vi f), (9, .bool (decide (f < ((g).length : Int))))] (fun L => ?_))))
 refine c_seq (c_if (decide (f < ((g).length : Int))) R d (fun d => ?_) (fun d => ?_))
 · refine c_skip (k_then (c_seq (c_block (c_sp (x_u 1 [(10, Vi f)] ?_)))))
   obtain ⟨H, aJ, d⟩ := bind_some d
   obtain ⟨af, aO, aG, ay, ax⟩ := reads_index (Mo := []) tsl22 n aJ
   obtain rfl := ax
   refine x_indexAddr (xv := .slice q (g).length r) (yv := Vi f) (.pointer (some af)) R R R R aG (x_load (xv := .pointer (some af)) (Vi H) R R R (reads_cell0 tcell3 ay (fun _ d => by cases d)) ?_)
   refine x_u 2 [(4, Vi f), (5, Vi H)] (x_ek (c_sp (x_u 2 [(13, Vi H), (14, .bool (decide (H > 0)))] (x_ek (c_if (decide (H > 0)) R d (fun d => ?_) (fun d => ?_))))))
   · refine c_plain (x_u 2 [(15, .slice a (j).length i), (16, Vi f)] (x_buildSlice (vs := [(0, Vi f)]) #[Vi f] 3 R R R (by kernel_rfl) (fun ag au aF ai C aU => ?_)))
     refine inl1 ?_
     have am := h
     have u := Stp.ext (ls := [[b], blk a, e]) C
     replace p := C.box p nn
     replace n := n.step u
     replace v := v.step u C nn2
     replace h := h.ev C
     replace k := k.ext C
     have aI : SlR (eInt .i64) au (fl [[b], blk a, e]) (Ad ag 0) 1 ([f]) := ro_of_box am aF ai R R (cells_at (cs := [Vi f]) (CellsOf.cons (c := [Vi f]) R CellsOf.nil))
     clear ai am
     have aB := guard_l d
     replace d := guard_r d
     obtain ⟨x, N, ac, aH, I, U, aQ, aq⟩ := own_appendN tel22 22 v (mem_flat 1 R) aI aB
     refine x_builtin (vs := [.slice a (j).length i, .slice (Ad ag 0) ([f]).length 1]) _ ac R R R R (run_value _ _ _ _ aH) (inl1 ?_)
     have u : Stp (fl [[b], blk a, e]) au (fl [[b], blk x, e]) ac := Stp.upd 1 I R (fun o t => (U o t).1)
     replace p := I.box p (h.apart 0 1 R R R _ mem1)
     replace n := n.step u
     replace h : MS ac [[b], blk x, e] := h.upd 1 I R U
     have D : FR s.heap.size [[b], blk x] := m.upd 1 R k.size (fun o t => (U o t).1)
     replace k := k.then I (fun o t => .inr (m.at 1 R o t))
     replace m := D
     clear D
     replace v := aq (fl [[b], blk x, e]) u.new
     clear aq
     refine x_u 1 [(3, .slice x ((j ++ [f])).length N)] (x_end R (k_block (k_then (c_nm [(1, Vp b 0), (3, .slice x ((j ++ [f])).length N), (6, .slice q (g).length r), (7, Vi ((g).length : Int)), (8, Vi f)] (fun L => ?_)))))
     refine c_plain (x_u 2 [(19, Vi (i64.wrap (f + 1))), (8, Vi (i64.wrap (f + 1)))] (x_end R ?_))
     obtain rfl := some_inj d
     exact k_then ⟨(z, (j ++ [f]), i64.wrap (f + 1), x, N), ⟨R, R, R, R, R, trivial⟩, ⟨y, k, h, m, n, p, v⟩, Nat.lt_succ_self _⟩
   refine c_skip (k_block (k_then (c_plain (x_u 2 [(19, Vi (i64.wrap (f + 1))), (8, Vi (i64.wrap (f + 1)))] (x_end R ?_)))))
   obtain rfl := some_inj d
   exact k_then ⟨(z, j, i64.wrap (f + 1), a, i), ⟨R, R, R, R, R, trivial⟩, ⟨y, k, h, m, n, p, v⟩, Nat.lt_succ_self _⟩
 refine c_exit (k_then_exit ?_)
 obtain rfl := some_inj d
 have aK := some_inj y
 subst aK
 replace d := aw
 refine k_then_exit (k_block_in (k_then (c_nm [(1, Vp b 0), (3, .slice a (j).length i)] (fun L => ?_))))
 refine c_sp (x_u 1 [(20, .slice a (j).length i)] (x_makeFunc 132 #[] #[Vp b 0] R R R R ?_))
 obtain ⟨K, J, d⟩ := bind_some d
 have E : MS ae ([blk a, [b]] ++ [e]) := h.pick [some 1, some 0, some 2] _ R
 have ao : ∀ A ∈ fl ([blk a, [b]] ++ [e]), A ∈ fl [[b], blk a, e] := pick_sub [some 1, some 0, some 2] _ R
 have aa : ∀ A ∈ fl ([blk a, [b]] ++ [(fl [e])]), A ∈ fl [[b], blk a, e] := fun A J => ao A (fl_unfold A J)
 have aj := slices_SortStableFunc_int_int__w a i j b q r g _ ae (fl [e]) (E.fold (P := [blk a, [b]])) (v.sub aa) (n.sub aa) p J
 refine x_call 131 #[] #[] [.slice a (j).length i, (.func (.func 132) #[] #[Vp b 0])] _ R R R R aj ?_
 rintro ar aN ⟨rfl, ak, aE, aS, aC, aA, X⟩
 clear aj J
 refine inl1 ?_
 have an : MS ae ([blk a, [b]] ++ [e]) := h.pick [some 1, some 0, some 2] _ R
 replace h : MS aN [[b], blk a, e] := (MS.call (P := [blk a, [b]]) (R := [e]) (res := []) (par := [blk a, [b]]) an ak aC aA X).pick [some 1, some 0, some 2] _ R
 have O : ∀ o ∈ fl [blk a, [b]], s.heap.size ≤ o := FR.mem (ls := [blk a, [b]]) (m.pick [some 1, some 0] _ R)
 have D : FR s.heap.size [[b], blk a] := (FR.cons (fun o t => (X.at 1 R o t).elim (fun d => O o d) (fun d => Nat.le_trans k.size d)) (FR.cons (fun o t => (X.at 0 R o t).elim (fun d => O o d) (fun d => Nat.le_trans k.size d)) (FR.nil _)))
 replace k := k.then ak (fun o t => .inr (O o t))
 replace m := D
 clear D
 replace v := OwnS.plain (M' := fl [[b], blk a, e]) (plain_int _) aE
 clear E aa ao an u
 have al := guard_l d
 replace d := guard_r d
 have ap : (Value.slice a (j).length i) = (Value.slice a (K).length i) := by first | (rw [al]; done) | simp only [al]
 try rw [ap]
 clear ap
 refine x_ek (c_sp (x_u 2 [(23, .slice a (K).length i), (2, .slice a (K).length i)] (x_ek (c_ret (r_ret (r_vals [.slice a (K).length i] ⟨R, trivial⟩ ?_))))))
 obtain rfl := some_inj d
 have aD := h.pick [some 1, some 2] [blk a, e] R
 have F := pick_sub (ls := [[b], blk a, e]) [some 1, some 2] [blk a, e] R
 have az := m.pick [some 1] [blk a] R
 exact ⟨a, i, R, k, aD, az, v.sub F⟩
def assign_Match_L23 (f : List Int) (c : List Int) (e : List Bool) (h : Int) (g : Int × Int) : Option (Step (Int × Int) Int) :=
match g with
| (b, a) =>
(if (decide (a < ((c).length : Int))) = true then
((idx c a).bind fun d =>
((idx e a).bind fun i =>
(if (!i) = true then
((idx f h).bind fun j =>
(if (decide (d ≥ j)) = true then
(if (decide (b < 0)) = true then
some (.next (a, i64.wrap (a + 1)))
else
((idx c b).bind fun k =>
(if (decide (d < k)) = true then
some (.next (a, i64.wrap (a + 1)))
else
some (.next (b, i64.wrap (a + 1))))))
else
some (.next (b, i64.wrap (a + 1)))))
else
some (.next (b, i64.wrap (a + 1))))))
else
some (.done b))
def assign_Match_L18 (i : List Int) (j : List Int) (c : (List Int)) (k : (List Int) × (List Bool) × Int) : Option (Step ((List Int) × (List Bool) × Int) ((List Int) ⊕ (List Int))) :=
match k with
| (e, d, a) =>
(if (decide (a < ((c).length : Int))) = true then
((idx c a).bind fun f =>
((loop (assign_Match_L23 i j d f) ((-1), 0)).bind fun h => match h with
| b => (if (decide (b < 0)) = true then
(if 0 ≤ (0 : Int) ∧ (0 : Int) ≤ i64.wrap (a + 1) ∧ i64.wrap (a + 1) ≤ (c.length : Int) then
((slices_Clone_int_int_ ((c.drop (Int.toNat (0 : Int))).take (Int.toNat (i64.wrap (a + 1)) - Int.toNat (0 : Int)))).bind fun g =>
(if g ≠ [] ∧ g.length ≤ 4294967296 then
some (.done (.inl (sortI g)))
else none))
else none)
else
((idx d b).bind fun l =>
((idx e f).bind fun m =>
some (.next ((e.set (Int.toNat f) b), (d.set (Int.toNat b) true), i64.wrap (a + 1))))))))
else
some (.done (.inr e)))
def assign_Match_L9 (c : List Int) (d : (List Int) × Int) : Option (Step ((List Int) × Int) (List Int)) :=
match d with
| (b, a) =>
(if (decide (a < (((List.replicate (Int.toNat ((c).length : Int)) 0 : List Int)).length : Int))) = true then
((idx b a).bind fun e =>
some (.next ((b.set (Int.toNat a) (-1)), i64.wrap (a + 1))))
else
some (.done b))
def assign_Match (a : List Int) (b : List Int) : Option ((List Int) × (List Int) × Int) :=
((assign_check a b).bind fun d =>
(if (d != 0) = true then
some ([], [], d)
else
(if (0 : Int) ≤ ((a).length : Int) ∧ (((a).length : Int) : Int) ≤ 4294967296 then
((loop (assign_Match_L9 a) ((List.replicate (Int.toNat ((a).length : Int)) 0 : List Int), 0)).bind fun c => match c with
| g => (if (0 : Int) ≤ ((b).length : Int) ∧ (((b).length : Int) : Int) ≤ 4294967296 then
((assign_order a).bind fun h =>
((loop (assign_Match_L18 a b h) (g, (List.replicate (Int.toNat ((b).length : Int)) false : List Bool), 0)).bind fun c => match c with
| (.inl e) => some ([], e, 14)
| (.inr f) => some (f, [], 0)))
else none))
else none)))
theorem assign_Match_w (x : Option Addr) (z : Nat) (i : List Int) (q : Option Addr) (r : Nat) (h : List Int) (ao : (List Int) × (List Int) × Int) (Q : World) (d : List Nat) (j : MS Q [d]) (v : SlR (eInt .i64) Q (fl [d]) x z i) (w : SlR (eInt .i64) Q (fl [d]) q r h) (a : assign_Match i h = some ao) : CallVC Tryz.prog 88 [.slice x (i).length z, .slice q (h).length r] Q fun aE D => ∃ (al : Option Addr), ∃ (a3 : Nat), ∃ (am : Option Addr), ∃ (a4 : Nat), aE = .tuple #[.slice al (ao.1).length a3, .slice am (ao.2.1).length a4, Vi ao.2.2] ∧ Ev [] Q D ∧ MS D [blk al, blk am, d] ∧ FR Q.heap.size [blk al, blk am] ∧ OwnS (eInt .i64) 3 D (fl [blk al, blk am, d]) al a3 ao.1 ∧ OwnS (eInt .i64) 3 D (fl [blk al, blk am, d]) am a4 ao.2.1 := by
 refine calls_vc hmx Tryz.func88 (by kernel_rfl) R (rs := [.tmp 4, .tmp 5, .tmp 6]) R (by kernel_rfl) (args := [.slice x (i).length z, .slice q (h).length r]) R ?_
 have o : Ev [] Q Q := Ev.refl _ _
 have u : FR Q.heap.size [] := FR.nil _
 refine c_sp (x_u 3 [(4, .slice none 0 0), (5, .slice none 0 0), (6, Vi 0)] (x_ek (c_seq (c_sp (x_u 2 [(16, .slice x (i).length z), (17, .slice q (h).length r)] ?_)))))
 obtain ⟨aj, ai, a⟩ := bind_some a
 have ab := assign_check_w x z i q r h _ Q (fl [d]) (MS.fold (P := []) j) (v.sub fl1) (w.sub fl1) ai
 refine x_call 71 #[] #[] [.slice x (i).length z, .slice q (h).length r] _ R R R R ab ?_
 rintro aE b8 ⟨rfl, aQ⟩
 clear ab ai
 refine inl1 ?_
 have B := Stp.ext (ls := [d]) aQ
 replace v := v.step B
 replace w := w.step B
 replace j := j.ev aQ
 replace o := o.ext aQ
 refine x_u 1 [(7, Vi aj)] (x_ek (c_sp (x_u 2 [(19, Vi aj), (20, .bool (aj != 0))] (x_ek (c_if (aj != 0) R a (fun a => ?_) (fun a => ?_))))))
 · refine c_sp (x_u 4 [(21, Vi aj), (4, .slice none 0 0), (5, .slice none 0 0), (6, Vi aj)] (x_ek (c_nm [(4, .slice none 0 0), (5, .slice none 0 0), (6, Vi aj)] (fun S => ?_))))
   refine c_ret (k_then_ret (r_ret (r_vals [.slice none 0 0, .slice none 0 0, Vi aj] ⟨R, R, R, trivial⟩ ?_)))
   obtain rfl := some_inj a
   have ay := j.pick [none, none, some 0] [blk none, blk none, d] R
   have aw := u.pick [none, none] [blk none, blk none] R
   exact ⟨none, 0, none, 0, R, o, ay, aw, OwnS.nil _ _ _ _, OwnS.nil _ _ _ _⟩
 refine c_skip (k_then (c_sp (x_u 1 [(22, .slice x (i).length z)] (x_len (vs := [.slice x (i).length z]) (Vi ((i).length : Int)) R R R (reads_len tsl22 _ _ _ _ _) ?_))))
 have ae := guard_l a
 replace a := guard_r a
 obtain ⟨b, t, b9, bY, aS, aY, bg⟩ := own_make (e := (eInt .i64)) tel22 b8 ((i).length : Int) ae.1 ae.2 0 (fun _ _ => R)
 refine x_makeSlice _ b9 (xv := Vi ((i).length : Int)) (yv := Vi ((i).length : Int)) R R R R bY (inl1 ?_)
 have B := Stp.push (ls := [d]) (l := blk b) aS (fun _ a => by cases a) (fun U X => (aY U X).1)
 replace v := v.step B
 replace w := w.step B
 replace j := j.push aS aY
 replace u := u.push (fun U X => Nat.le_trans o.size (aY U X).1)
 replace o := o.ext aS
 have A := bg (fl [blk b, d])
 clear bg
 refine x_u 1 [(4, .slice b ((List.replicate (Int.toNat ((i).length : Int)) 0 : List Int)).length t)] (x_ek (c_nm [(0, .slice x (i).length z), (1, .slice q (h).length r), (4, .slice b ((List.replicate (Int.toNat ((i).length : Int)) 0 : List Int)).length t)] (fun S => ?_)))
 refine c_seq (c_sp (x_u 1 [(25, .slice b ((List.replicate (Int.toNat ((i).length : Int)) 0 : List Int)).length t)] (x_len (vs := [.slice b ((List.replicate (Int.toNat ((i).length : Int)) 0 : List Int)).length t]) (Vi (((List.replicate (Int.toNat ((i).length : Int)) 0 : List Int)).length : Int)) R R R (reads_len tsl22 _ _ _ _ _) (x_u 1 [(27, Vi 0)] (x_ek (c_block ?_))))))
 obtain ⟨bo, aN, bq⟩ := bind_some a
 obtain ⟨aD, aN⟩ := loop_some aN
 refine c_loop (loop_rule hmx (σ := Nat × (List Int) × Int) (fun O => match O with | (_, Y, K) => [(0, .slice x (i).length z), (1, .slice q (h).length r), (4, .slice b (Y).length t), (26, Vi (((List.replicate (Int.toNat ((i).length : Int)) 0 : List Int)).length : Int)), (27, Vi K)]) (fun O D => match O with | (aB, Y, K) => loopN (assign_Match_L9 i) aB (Y, K) = some bo ∧ Ev [] Q D ∧ MS D [blk b, d] ∧ FR Q.heap.size [blk b] ∧ SlR (eInt .i64) D (fl [blk b, d]) x z i ∧ SlR (eInt .i64) D (fl [blk b, d]) q r h ∧ OwnS (eInt .i64) 3 D (fl [blk b, d]) b t Y) (fun O => O.1) (aD, (List.replicate (Int.toNat ((i).length : Int)) 0 : List Int), 0) ⟨R, R, R, R, R, trivial⟩ ⟨aN, o, j, u, v, w, A⟩ ?_)
 rintro ⟨aD, Y, K⟩ S ca ⟨az, o, j, u, v, w, A⟩
 rcases aD with _ | aD
 · exact (loopN_zero az).elim
 obtain ⟨cq, a, az⟩ := bind_some az
 refine c_sp (x_u 1 [(28, .bool (decide (K < (((List.replicate (Int.toNat ((i).length : Int)) 0 : List Int)).length : Int))))] (x_ek (c_nm [(0, .slice x (i).length z), (1, .slice q (h).length r), (4, .slice b (Y).length t), (26, Vi (((List.replicate (Int.toNat ((i).length : Int)) 0 : List Int)).length : Int)), (27, Vi K), (28, .bool (decide (K < (((List.replicate (Int.toNat ((i).length : Int)) 0 : List Int)).length : Int))))] (fun S => ?_))))
 refine c_seq (c_if (decide (K < (((List.replicate (Int.toNat ((i).length : Int)) 0 : List Int)).length : Int))) R a (fun a => ?_) (fun a => ?_))
 · refine c_skip (k_then (c_seq (c_block (c_sp (x_u 2 [(29, Vi K), (8, Vi K)] (x_ek (c_plain (x_u 2 [(30, .slice b (Y).length t), (31, Vi K)] ?_))))))))
   obtain ⟨cv, bh, a⟩ := bind_some a
   obtain ⟨a5, cb, br, bF, cl, H⟩ := own_index (Mo := []) tsl22 A bh
   obtain rfl := H
   refine x_indexAddr (xv := .slice b (Y).length t) (yv := Vi K) (.pointer (some ⟨a5, (Int.toNat K) * (eInt .i64).n, none⟩)) R R R R bF ?_
   obtain ⟨b5, bG, aO, bC⟩ := own_storeE br (y := (-1)) 0 (Vi (-1)) tcell3 A (mem_flat 0 R) bh R R (fun _ _ _ H => set_int H)
   refine x_store b5 (xv := .pointer (some ⟨a5, (Int.toNat K) * (eInt .i64).n, none⟩)) (yv := Vi (-1)) R R R R bG (inl1 ?_)
   have B := Stp.ev' (ls := [blk b, d]) aO (mem_flat 0 R)
   replace v := v.step B
   replace w := w.step B
   replace j := j.ev aO
   replace o := o.then aO (fun U X => .inr (u.at 0 R U X))
   replace A := bC
   have ac : (Value.slice b (Y).length t) = (Value.slice b ((Y.set (Int.toNat K) (-1))).length t) := by first | (rw [List.length_set]; done) | simp only [List.length_set]
   try rw [ac]
   clear ac
   refine x_end R (k_block (k_then (c_plain (x_u 2 [(33, Vi (i64.wrap (K + 1))), (27, Vi (i64.wrap (K + 1)))] (x_end R ?_)))))
   obtain rfl := some_inj a
   exact k_then ⟨(aD, (Y.set (Int.toNat K) (-1)), i64.wrap (K + 1)), ⟨R, R, R, R, R, trivial⟩, ⟨az, o, j, u, v, w, A⟩, Nat.lt_succ_self _⟩
 refine c_exit (k_then_exit ?_)
 obtain rfl := some_inj a
 have ak := some_inj az
 subst ak
 replace a := bq
 refine k_then_exit (k_block_in (k_then (c_nm [(0, .slice x (i).length z), (1, .slice q (h).length r), (4, .slice b (Y).length t)] (fun S => ?_))))
 refine c_sp (x_u 1 [(34, .slice q (h).length r)] (x_len (vs := [.slice q (h).length r]) (Vi ((h).length : Int)) R R R (reads_len tsl22 _ _ _ _ _) ?_))
 have ae := guard_l a
 replace a := guard_r a
 obtain ⟨c, L, bk, bH, aI, aX, bf⟩ := own_make (e := eBool) tel111 ca ((h).length : Int) ae.1 ae.2 false (fun _ _ => R)
 refine x_makeSlice _ bk (xv := Vi ((h).length : Int)) (yv := Vi ((h).length : Int)) R R R R bH (inl1 ?_)
 have B := Stp.push (ls := [blk b, d]) (l := blk c) aI (fun _ a => by cases a) (fun U X => (aX U X).1)
 replace v := v.step B
 replace w := w.step B
 replace A := A.step B aI nn2
 replace j := j.push aI aX
 replace u := u.push (fun U X => Nat.le_trans o.size (aX U X).1)
 replace o := o.ext aI
 have I := bf (fl [blk c, blk b, d])
 clear bf
 refine x_u 1 [(9, .slice c ((List.replicate (Int.toNat ((h).length : Int)) false : List Bool)).length L)] (x_ek (c_sp (x_u 1 [(37, .slice x (i).length z)] ?_)))
 obtain ⟨m, ai, a⟩ := bind_some a
 have ab := assign_order_w x z i _ bk (fl [blk c, blk b, d]) (MS.fold (P := []) j) (v.sub fl1) ai
 refine x_call 117 #[] #[] [.slice x (i).length z] _ R R R R ab ?_
 rintro aE cr ⟨g, C, rfl, aq, bA, aU, G⟩
 clear ab ai
 refine inl1 ?_
 have B := Stp.call0 [blk c, blk b, d] [blk g] [blk g, blk c, blk b, d] aq aU R
 replace v := v.step B
 replace w := w.step B
 replace A := A.step B aq nn2
 replace I := I.step B aq nn2
 replace j := MS.call0 [blk g] [blk g, blk c, blk b, d] j aq bA aU R
 have ax := FR.call0 [blk g, blk c, blk b] o.size aU u R
 replace o := o.ext aq
 replace u := ax
 clear ax
 replace G := OwnS.plain (M' := fl [blk g, blk c, blk b, d]) (plain_int _) G
 clear B
 refine x_u 1 [(10, .slice g (m).length C)] (x_ek (c_seq (c_sp (x_u 1 [(39, .slice g (m).length C)] (x_len (vs := [.slice g (m).length C]) (Vi ((m).length : Int)) R R R (reads_len tsl22 _ _ _ _ _) (x_u 1 [(41, Vi 0)] (x_ek (c_block ?_))))))))
 have aA := j.pick [some 2, some 1, some 0, some 3] [blk b, blk c, blk g, d] R
 have Z := pick_sub (ls := [blk g, blk c, blk b, d]) [some 2, some 1, some 0, some 3] [blk b, blk c, blk g, d] R
 replace v := v.sub Z
 replace w := w.sub Z
 replace A := A.sub Z
 replace I := I.sub Z
 replace G := G.sub Z
 replace j := aA
 replace u := u.pick [some 2, some 1, some 0] [blk b, blk c, blk g] R
 clear aA Z
 obtain ⟨bm, aK, ba⟩ := bind_some a
 obtain ⟨aC, aK⟩ := loop_some aK
 refine c_loop (loop_rule hmx (σ := Nat × (List Int) × (List Bool) × Int) (fun O => match O with | (_, E, F, p) => [(0, .slice x (i).length z), (1, .slice q (h).length r), (4, .slice b (E).length t), (9, .slice c (F).length L), (10, .slice g (m).length C), (39, .slice g (m).length C), (40, Vi ((m).length : Int)), (41, Vi p)]) (fun O D => match O with | (aB, E, F, p) => loopN (assign_Match_L18 i h m) aB (E, F, p) = some bm ∧ Ev [] Q D ∧ MS D [blk b, blk c, blk g, d] ∧ FR Q.heap.size [blk b, blk c, blk g] ∧ SlR (eInt .i64) D (fl [blk b, blk c, blk g, d]) x z i ∧ SlR (eInt .i64) D (fl [blk b, blk c, blk g, d]) q r h ∧ OwnS (eInt .i64) 3 D (fl [blk b, blk c, blk g, d]) b t E ∧ OwnS eBool 4 D (fl [blk b, blk c, blk g, d]) c L F ∧ OwnS (eInt .i64) 3 D (fl [blk b, blk c, blk g, d]) g C m) (fun O => O.1) (aC, Y, (List.replicate (Int.toNat ((h).length : Int)) false : List Bool), 0) ⟨R, R, R, R, R, R, R, R, trivial⟩ ⟨aK, o, j, u, v, w, A, I, G⟩ ?_)
 rintro ⟨aC, E, F, p⟩ S cu ⟨an, o, j, u, v, w, A, I, G⟩
 rcases aC with _ | aC
 · exact (loopN_zero an).elim
 obtain ⟨co, a, an⟩ := bind_some an
 refine c_sp (x_u 1 [(42, .bool (decide (p < ((m).length : Int))))] (x_ek (c_nm [(0, .slice x (i).length z), (1, .slice q (h).length r), (4, .slice b (E).length t), (9, .slice c (F).length L), (10, .slice g (m).length C), (39, .slice g (m).length C), (40, Vi ((m).length : Int)), (41, Vi p), (42, .bool (decide (p < ((m).length : Int))))] (fun S => ?_))))
 refine c_seq (c_if (decide (p < ((m).length : Int))) R a (fun a => ?_) (fun a => ?_))
 · refine c_skip (k_then (c_seq (c_block (c_sp (x_u 1 [(43, Vi p)] ?_)))))
   obtain ⟨N, b0, a⟩ := bind_some a
   obtain ⟨a6, cc, cj, bI, bu, H⟩ := own_index (Mo := []) tsl22 G b0
   obtain rfl := H
   refine x_indexAddr (xv := .slice g (m).length C) (yv := Vi p) (.pointer (some ⟨a6, (Int.toNat p) * (eInt .i64).n, none⟩)) R R R R bI (x_load (xv := .pointer (some ⟨a6, (Int.toNat p) * (eInt .i64).n, none⟩)) (Vi N) R R R (reads_cell0 tcell3 bu (fun _ a => by cases a)) ?_)
   refine x_u 2 [(11, Vi p), (12, Vi N)] (x_ek (c_sp (x_u 1 [(13, Vi (-1))] (x_ek (c_seq (c_sp (x_u 1 [(46, .slice q (h).length r)] (x_len (vs := [.slice q (h).length r]) (Vi ((h).length : Int)) R R R (reads_len tsl22 _ _ _ _ _) (x_u 1 [(48, Vi 0)] ?_)))))))))
   refine x_ek (c_block ?_)
   obtain ⟨bn, aL, bp⟩ := bind_some a
   obtain ⟨ag, aL⟩ := loop_some aL
   refine c_loop (loop_rule hmx (σ := Nat × Int × Int) (fun O => match O with | (_, s, k) => [(0, .slice x (i).length z), (1, .slice q (h).length r), (4, .slice b (E).length t), (9, .slice c (F).length L), (10, .slice g (m).length C), (11, Vi p), (12, Vi N), (13, Vi s), (39, .slice g (m).length C), (40, Vi ((m).length : Int)), (41, Vi p), (46, .slice q (h).length r), (47, Vi ((h).length : Int)), (48, Vi k)]) (fun O D => match O with | (aB, s, k) => loopN (assign_Match_L23 i h F N) aB (s, k) = some bn ∧ Ev [] Q D ∧ MS D [blk b, blk c, blk g, d] ∧ FR Q.heap.size [blk b, blk c, blk g] ∧ SlR (eInt .i64) D (fl [blk b, blk c, blk g, d]) x z i ∧ SlR (eInt .i64) D (fl [blk b, blk c, blk g, d]) q r h ∧ OwnS (eInt .i64) 3 D (fl [blk b, blk c, blk g, d]) b t E ∧ OwnS eBool 4 D (fl [blk b, blk c, blk g, d]) c L F ∧ OwnS (eInt .i64) 3 D (fl [blk b, blk c, blk g, d]) g C m) (fun O => O.1) (ag, (-1), 0) ⟨R, R, R, R, R, R, R, R, R, R, R, R, R, R, trivial⟩ ⟨aL, o, j, u, v, w, A, I, G⟩ ?_)
   rintro ⟨ag, s, k⟩ S bl ⟨af, o, j, u, v, w, A, I, G⟩
   rcases ag with _ | ag
   · exact (loopN_zero af).elim
   obtain ⟨cp, a, af⟩ := bind_some af
   refine c_sp (x_u 1 [(49, .bool (decide (k < ((h).length : Int))))] (x_ek (c_nm [(0, .slice x (i).length z), (1, .slice q (h).length r), (4, .slice b (E).length t), (9, .slice c (F).length L), (10, .slice g (m).length C), (11, Vi p), (12, Vi N), (13, Vi s), (39, .slice g (m).length C), (40, Vi ((m).length : Int)), (41, Vi p), (46, .slice q (h).length r), (47, Vi ((h).length : Int)), (48, Vi k), (49, .bool (decide (k < ((h).length : Int))))] (fun S => ?_))))
   refine c_seq (c_if (decide (k < ((h).length : Int))) R a (fun a => ?_) (fun a => ?_))
   · refine c_skip (k_then (c_seq (c_block (c_sp (x_u 1 [(50, Vi k)] ?_)))))
     obtain ⟨aa, b1, a⟩ := bind_some a
     obtain ⟨a0, cd, bJ, bv, H⟩ := reads_index (Mo := []) tsl22 w b1
     obtain rfl := H
     refine x_indexAddr (xv := .slice q (h).length r) (yv := Vi k) (.pointer (some a0)) R R R R bJ (x_load (xv := .pointer (some a0)) (Vi aa) R R R (reads_cell0 tcell3 bv (fun _ a => by cases a)) ?_)
     refine x_u 2 [(14, Vi k), (15, Vi aa)] (x_ek (c_sp (x_u 2 [(53, .slice c (F).length L), (54, Vi k)] ?_)))
     obtain ⟨aJ, b2, a⟩ := bind_some a
     obtain ⟨a7, ce, ck, bK, bw, H⟩ := own_index (Mo := []) tsl111 I b2
     obtain rfl := H
     refine x_indexAddr (xv := .slice c (F).length L) (yv := Vi k) (.pointer (some ⟨a7, (Int.toNat k) * eBool.n, none⟩)) R R R R bK (x_load (xv := .pointer (some ⟨a7, (Int.toNat k) * eBool.n, none⟩)) (.bool aJ) R R R (reads_cell0 tcell4 bw (fun _ a => by cases a)) ?_)
     refine x_u 2 [(57, .bool (!aJ)), (58, .bool (!aJ))] (x_if 58 (!aJ) R a (fun a => ?_) (fun a => ?_))
     · refine x_u 3 [(59, Vi aa), (60, .slice x (i).length z), (61, Vi N)] ?_
       obtain ⟨aF, b3, a⟩ := bind_some a
       obtain ⟨a1, cf, bL, bx, H⟩ := reads_index (Mo := []) tsl22 v b3
       obtain rfl := H
       refine x_indexAddr (xv := .slice x (i).length z) (yv := Vi N) (.pointer (some a1)) R R R R bL (x_load (xv := .pointer (some a1)) (Vi aF) R R R (reads_cell0 tcell3 bx (fun _ a => by cases a)) ?_)
       refine x_u 3 [(64, .bool (decide (aa ≥ aF))), (65, .bool (decide (aa ≥ aF))), (66, .bool (decide (aa ≥ aF)))] (x_if 66 (decide (aa ≥ aF)) R a (fun a => ?_) (fun a => ?_))
       · refine x_u 3 [(67, Vi s), (68, .bool (decide (s < 0))), (69, .bool (decide (s < 0)))] (x_if 69 (decide (s < 0)) R a (fun a => ?_) (fun a => ?_))
         · refine x_u 8 [(70, undef), (71, undef), (72, undef), (73, undef), (74, undef), (75, undef), (76, .bool true), (77, .bool true)] (x_ek (c_nm [(0, .slice x (i).length z), (1, .slice q (h).length r), (4, .slice b (E).length t), (9, .slice c (F).length L), (10, .slice g (m).length C), (11, Vi p), (12, Vi N), (13, Vi s), (14, Vi k), (39, .slice g (m).length C), (40, Vi ((m).length : Int)), (41, Vi p), (46, .slice q (h).length r), (47, Vi ((h).length : Int)), (48, Vi k), (77, .bool true)] (fun S => ?_)))
           refine c_true R (c_plain (x_u 2 [(78, Vi k), (13, Vi k)] (x_end R (k_block (k_then (c_plain (x_u 2 [(79, Vi (i64.wrap (k + 1))), (48, Vi (i64.wrap (k + 1)))] (x_end R ?_))))))))
           obtain rfl := some_inj a
           exact k_then ⟨(ag, k, i64.wrap (k + 1)), ⟨R, R, R, R, R, R, R, R, R, R, R, R, R, R, trivial⟩, ⟨af, o, j, u, v, w, A, I, G⟩, Nat.lt_succ_self _⟩
         refine x_u 3 [(70, Vi aa), (71, .slice q (h).length r), (72, Vi s)] ?_
         obtain ⟨ap, b4, a⟩ := bind_some a
         obtain ⟨a2, cg, bN, bz, H⟩ := reads_index (Mo := []) tsl22 w b4
         obtain rfl := H
         refine x_indexAddr (xv := .slice q (h).length r) (yv := Vi s) (.pointer (some a2)) R R R R bN (x_load (xv := .pointer (some a2)) (Vi ap) R R R (reads_cell0 tcell3 bz (fun _ a => by cases a)) ?_)
         refine x_u 3 [(75, .bool (decide (aa < ap))), (76, .bool (decide (aa < ap))), (77, .bool (decide (aa < ap)))] (x_ek (c_nm [(0, .slice x (i).length z), (1, .slice q (h).length r), (4, .slice b (E).length t), (9, .slice c (F).length L), (10, .slice g (m).length C), (11, Vi p), (12, Vi N), (13, Vi s), (14, Vi k), (39, .slice g (m).length C), (40, Vi ((m).length : Int)), (41, Vi p), (46, .slice q (h).length r), (47, Vi ((h).length : Int)), (48, Vi k), (77, .bool (decide (aa < ap)))] (fun S => ?_)))
         refine c_if (decide (aa < ap)) R a (fun a => ?_) (fun a => ?_)
         · refine c_plain (x_u 2 [(78, Vi k), (13, Vi k)] (x_end R (k_block (k_then (c_plain (x_u 2 [(79, Vi (i64.wrap (k + 1))), (48, Vi (i64.wrap (k + 1)))] (x_end R ?_)))))))
           obtain rfl := some_inj a
           exact k_then ⟨(ag, k, i64.wrap (k + 1)), ⟨R, R, R, R, R, R, R, R, R, R, R, R, R, R, trivial⟩, ⟨af, o, j, u, v, w, A, I, G⟩, Nat.lt_succ_self _⟩
         refine c_skip (k_block (k_then (c_plain (x_u 2 [(79, Vi (i64.wrap (k + 1))), (48, Vi (i64.wrap (k + 1)))] (x_end R ?_)))))
         obtain rfl := some_inj a
         exact k_then ⟨(ag, s, i64.wrap (k + 1)), ⟨R, R, R, R, R, R, R, R, R, R, R, R, R, R, trivial⟩, ⟨af, o, j, u, v, w, A, I, G⟩, Nat.lt_succ_self _⟩
       refine x_u 11 [(67, undef), (68, undef), (69, undef), (70, undef), (71, undef), (72, undef), (73, undef), (74, undef), (75, undef), (76, undef), (77, .bool false)] (x_ek (c_nm [(0, .slice x (i).length z), (1, .slice q (h).length r), (4, .slice b (E).length t), (9, .slice c (F).length L), (10, .slice g (m).length C), (11, Vi p), (12, Vi N), (13, Vi s), (14, Vi k), (39, .slice g (m).length C), (40, Vi ((m).length : Int)), (41, Vi p), (46, .slice q (h).length r), (47, Vi ((h).length : Int)), (48, Vi k), (77, .bool false)] (fun S => ?_)))
       refine c_false R (c_skip (k_block (k_then (c_plain (x_u 2 [(79, Vi (i64.wrap (k + 1))), (48, Vi (i64.wrap (k + 1)))] (x_end R ?_))))))
       obtain rfl := some_inj a
       exact k_then ⟨(ag, s, i64.wrap (k + 1)), ⟨R, R, R, R, R, R, R, R, R, R, R, R, R, R, trivial⟩, ⟨af, o, j, u, v, w, A, I, G⟩, Nat.lt_succ_self _⟩
     refine x_u 19 [(59, undef), (60, undef), (61, undef), (62, undef), (63, undef), (64, undef), (65, .bool false), (66, .bool false), (67, undef), (68, undef), (69, undef), (70, undef), (71, undef), (72, undef), (73, undef), (74, undef), (75, undef), (76, undef), (77, .bool false)] (x_ek (c_nm [(0, .slice x (i).length z), (1, .slice q (h).length r), (4, .slice b (E).length t), (9, .slice c (F).length L), (10, .slice g (m).length C), (11, Vi p), (12, Vi N), (13, Vi s), (14, Vi k), (39, .slice g (m).length C), (40, Vi ((m).length : Int)), (41, Vi p), (46, .slice q (h).length r), (47, Vi ((h).length : Int)), (48, Vi k), (77, .bool false)] (fun S => ?_)))
     refine c_false R (c_skip (k_block (k_then (c_plain (x_u 2 [(79, Vi (i64.wrap (k + 1))), (48, Vi (i64.wrap (k + 1)))] (x_end R ?_))))))
     obtain rfl := some_inj a
     exact k_then ⟨(ag, s, i64.wrap (k + 1)), ⟨R, R, R, R, R, R, R, R, R, R, R, R, R, R, trivial⟩, ⟨af, o, j, u, v, w, A, I, G⟩, Nat.lt_succ_self _⟩
   refine c_exit (k_then_exit ?_)
   obtain rfl := some_inj a
   have ak := some_inj af
   subst ak
   replace a := bp
   refine k_then_exit (k_block_in (k_then (c_nm [(0, .slice x (i).length z), (1, .slice q (h).length r), (4, .slice b (E).length t), (9, .slice c (F).length L), (10, .slice g (m).length C), (11, Vi p), (12, Vi N), (13, Vi s), (39, .slice g (m).length C), (40, Vi ((m).length : Int)), (41, Vi p)] (fun S => ?_))))
   refine c_seq (c_sp (x_u 2 [(80, Vi s), (81, .bool (decide (s < 0)))] (x_ek (c_if (decide (s < 0)) R a (fun a => ?_) (fun a => ?_)))))
   · refine c_sp (x_u 3 [(82, .slice g (m).length C), (83, Vi p), (84, Vi (i64.wrap (p + 1)))] ?_)
     have aA := j.pick [some 0, some 1, some 3] [blk b, blk c, d] R
     have Z := pick_sub (ls := [blk b, blk c, blk g, d]) [some 0, some 1, some 3] [blk b, blk c, d] R
     replace G := G.ro Z (pick_out j 2 R [some 0, some 1, some 3] [blk b, blk c, d] R R)
     replace j := aA
     replace u := u.pick [some 0, some 1] [blk b, blk c] R
     clear aA Z
     have ae := guard_l a
     replace a := guard_r a
     obtain ⟨aG, aH, bO, aZ⟩ := SlR.sliced (P := Tryz.prog) (Mo := []) tsl22 G none (some (i64.wrap (p + 1))) ae
     replace aZ : SlR (eInt .i64) bl (fl [blk b, blk c, d]) aG aH ((m.drop (Int.toNat (0 : Int))).take (Int.toNat (i64.wrap (p + 1)) - Int.toNat (0 : Int))) := aZ
     refine x_slice (xv := .slice g (m).length C) (lv := none) (hv := (some (Vi (i64.wrap (p + 1))))) (mv := none) (.slice aG (((m.drop (Int.toNat (0 : Int))).take (Int.toNat (i64.wrap (p + 1)) - Int.toNat (0 : Int)))).length aH) R R R R R R bO ?_
     obtain ⟨ah, ai, a⟩ := bind_some a
     have ab := slices_Clone_int_int__w aG aH ((m.drop (Int.toNat (0 : Int))).take (Int.toNat (i64.wrap (p + 1)) - Int.toNat (0 : Int))) _ bl (fl [blk b, blk c, d]) (MS.fold (P := []) j) (aZ.sub fl1) ai
     refine x_call 118 #[] #[] [.slice aG (((m.drop (Int.toNat (0 : Int))).take (Int.toNat (i64.wrap (p + 1)) - Int.toNat (0 : Int)))).length aH] _ R R R R ab ?_
     rintro aE cs ⟨J, ad, rfl, bb, bB, bd, av⟩
     clear ab ai
     refine inl1 ?_
     replace j := MS.call0 [blk J] [blk J, blk b, blk c, d] j bb bB bd R
     have ax := FR.call0 [blk J, blk b, blk c] o.size bd u R
     replace o := o.ext bb
     replace u := ax
     clear ax
     replace av := OwnS.plain (M' := fl [blk J, blk b, blk c, d]) (plain_int _) av
     refine x_u 1 [(5, .slice J (ah).length ad)] (x_ek (c_sp (x_u 1 [(87, .slice J (ah).length ad)] ?_)))
     have ae := guard_l a
     replace a := guard_r a
     have ab := sortI_w (P := Tryz.prog) Lsort (f := 119) R ⟨_, Tryz.func119, by kernel_rfl, R⟩ (T := 3) av ae
     refine x_call 119 #[] #[] [.slice J (ah).length ad] _ R R R R ab ?_
     rintro aE ct ⟨rfl, bc, be, bZ⟩
     clear ab
     refine inl1 ?_
     replace j := j.ev bc
     replace o := o.then bc (fun U X => .inr (u.at 0 R U X))
     replace av := bZ (fl [blk J, blk b, blk c, d])
     have ac : (Value.slice J (ah).length ad) = (Value.slice J ((sortI ah)).length ad) := by first | (rw [be]; done) | simp only [be]
     try rw [ac]
     clear ac
     refine x_ek (c_sp (x_u 4 [(89, .slice J ((sortI ah)).length ad), (4, .slice none 0 0), (5, .slice J ((sortI ah)).length ad), (6, Vi 14)] (x_ek (c_nm [(4, .slice none 0 0), (5, .slice J ((sortI ah)).length ad), (6, Vi 14)] (fun S => ?_)))))
     refine c_ret (k_then_ret (k_block_ret (k_then_ret ?_)))
     obtain rfl := some_inj a
     have ak := some_inj an
     subst ak
     replace a := ba
     refine k_then_ret (k_block_ret (k_then_ret (r_ret (r_vals [.slice none 0 0, .slice J ((sortI ah)).length ad, Vi 14] ⟨R, R, R, trivial⟩ ?_))))
     obtain rfl := some_inj a
     have ay := j.pick [none, some 0, some 3] [blk none, blk J, d] R
     have Z := pick_sub (ls := [blk J, blk b, blk c, d]) [none, some 0, some 3] [blk none, blk J, d] R
     have aw := u.pick [none, some 0] [blk none, blk J] R
     exact ⟨none, 0, J, ad, R, o, ay, aw, OwnS.nil _ _ _ _, av.sub Z⟩
   refine c_skip (k_then (c_sp (x_u 2 [(90, .slice c (F).length L), (91, Vi s)] ?_)))
   obtain ⟨cw, bi, a⟩ := bind_some a
   obtain ⟨a8, ch, bs, bQ, cm, H⟩ := own_index (Mo := []) tsl111 I bi
   obtain rfl := H
   refine x_indexAddr (xv := .slice c (F).length L) (yv := Vi s) (.pointer (some ⟨a8, (Int.toNat s) * eBool.n, none⟩)) R R R R bQ ?_
   obtain ⟨b6, bS, ar, bD⟩ := own_storeE bs (y := true) 0 (.bool true) tcell4 I (mem_flat 1 R) bi R R (fun _ _ _ H => set_bool H)
   refine x_store b6 (xv := .pointer (some ⟨a8, (Int.toNat s) * eBool.n, none⟩)) (yv := .bool true) R R R R bS (inl1 ?_)
   have B := Stp.ev' (ls := [blk b, blk c, blk g, d]) ar (mem_flat 1 R)
   replace v := v.step B
   replace w := w.step B
   replace A := A.step B ar (j.apart 0 1 R R R)
   replace G := G.step B ar (j.apart 2 1 R R R)
   replace j := j.ev ar
   replace o := o.then ar (fun U X => .inr (u.at 1 R U X))
   replace I := bD
   have ac : (Value.slice c (F).length L) = (Value.slice c ((F.set (Int.toNat s) true)).length L) := by first | (rw [List.length_set]; done) | simp only [List.length_set]
   try rw [ac]
   clear ac
   refine x_ek (c_plain (x_u 3 [(93, .slice b (E).length t), (94, Vi N), (95, Vi s)] ?_))
   obtain ⟨cx, bj, a⟩ := bind_some a
   obtain ⟨a9, ci, bt, bU, cn, H⟩ := own_index (Mo := []) tsl22 A bj
   obtain rfl := H
   refine x_indexAddr (xv := .slice b (E).length t) (yv := Vi N) (.pointer (some ⟨a9, (Int.toNat N) * (eInt .i64).n, none⟩)) R R R R bU ?_
   obtain ⟨b7, bX, au, bE⟩ := own_storeE bt (y := s) 0 (Vi s) tcell3 A (mem_flat 0 R) bj R R (fun _ _ _ H => set_int H)
   refine x_store b7 (xv := .pointer (some ⟨a9, (Int.toNat N) * (eInt .i64).n, none⟩)) (yv := Vi s) R R R R bX (inl1 ?_)
   have B := Stp.ev' (ls := [blk b, blk c, blk g, d]) au (mem_flat 0 R)
   replace v := v.step B
   replace w := w.step B
   replace I := I.step B au (j.apart 1 0 R R R)
   replace G := G.step B au (j.apart 2 0 R R R)
   replace j := j.ev au
   replace o := o.then au (fun U X => .inr (u.at 0 R U X))
   replace A := bE
   have ac : (Value.slice b (E).length t) = (Value.slice b ((E.set (Int.toNat N) s)).length t) := by first | (rw [List.length_set]; done) | simp only [List.length_set]
   try rw [ac]
   clear ac
   refine x_end R (k_block (k_then (c_plain (x_u 2 [(97, Vi (i64.wrap (p + 1))), (41, Vi (i64.wrap (p + 1)))] (x_end R ?_)))))
   obtain rfl := some_inj a
   exact k_then ⟨(aC, (E.set (Int.toNat N) s), (F.set (Int.toNat s) true), i64.wrap (p + 1)), ⟨R, R, R, R, R, R, R, R, trivial⟩, ⟨an, o, j, u, v, w, A, I, G⟩, Nat.lt_succ_self _⟩
 refine c_exit (k_then_exit ?_)
 obtain rfl := some_inj a
 have ak := some_inj an
 subst ak
 replace a := ba
 refine k_then_exit (k_block_in (k_then (c_nm [(4, .slice b (E).length t)] (fun S => ?_))))
 refine c_sp (x_u 4 [(98, .slice b (E).length t), (4, .slice b (E).length t), (5, .slice none 0 0), (6, Vi 0)] (x_ek (c_ret (r_ret (r_vals [.slice b (E).length t, .slice none 0 0, Vi 0] ⟨R, R, R, trivial⟩ ?_)))))
 obtain rfl := some_inj a
 have ay := j.pick [some 0, none, some 3] [blk b, blk none, d] R
 have Z := pick_sub (ls := [blk b, blk c, blk g, d]) [some 0, none, some 3] [blk b, blk none, d] R
 have aw := u.pick [some 0, none] [blk b, blk none] R
 exact ⟨b, t, none, 0, R, o, ay, aw, A.sub Z, OwnS.nil _ _ _ _⟩
def assign_Fits_L9 (d : List Int) (e : List Int) (f : List Int) (g : (List Bool) × Int) : Option (Step ((List Bool) × Int) (Unit ⊕ Unit)) :=
match g with
| (c, b) =>
(if (decide (b < ((f).length : Int))) = true then
((idx f b).bind fun a =>
((idx d b).bind fun h =>
(if (h == 0) = true then
(if (a != (-1)) = true then
some (.done (.inl ()))
else
some (.next (c, i64.wrap (b + 1))))
else
(if (decide (a < 0)) = true then
some (.done (.inl ()))
else
(if (decide (a ≥ ((e).length : Int))) = true then
some (.done (.inl ()))
else
((idx c a).bind fun i =>
(if i = true then
some (.done (.inl ()))
else
((idx e a).bind fun j =>
((idx d b).bind fun k =>
(if (decide (j < k)) = true then
some (.done (.inl ()))
else
((idx c a).bind fun l =>
some (.next ((c.set (Int.toNat a) true), i64.wrap (b + 1))))))))))))))
else
some (.done (.inr ())))
def assign_Fits (b : List Int) (a : List Int) (c : List Int) : Option Bool :=
((assign_check b a).bind fun e =>
(if (e != 0) = true then
some false
else
(if (((c).length : Int) != ((b).length : Int)) = true then
some false
else
(if (0 : Int) ≤ ((a).length : Int) ∧ (((a).length : Int) : Int) ≤ 4294967296 then
((loop (assign_Fits_L9 b a c) ((List.replicate (Int.toNat ((a).length : Int)) false : List Bool), 0)).bind fun d => match d with
| (.inl _) => some false
| (.inr _) => some true)
else none))))
theorem assign_Fits_w (i : Option Addr) (k : Nat) (f : List Int) (j : Option Addr) (m : Nat) (b : List Int) (q : Option Addr) (r : Nat) (c : List Int) (aq : Bool) (B : World) (t : List Nat) (z : MS B [t]) (v : SlR (eInt .i64) B (fl [t]) i k f) (w : SlR (eInt .i64) B (fl [t]) j m b) (A : SlR (eInt .i64) B (fl [t]) q r c) (a : assign_Fits f b c = some aq) : CallVC Tryz.prog 59 [.slice i (f).length k, .slice j (b).length m, .slice q (c).length r] B fun ar G => ar = .bool aq ∧ Ev [] B G := by
 refine calls_vc hmx Tryz.func59 (by kernel_rfl) R (rs := [.tmp 6]) R (by kernel_rfl) (args := [.slice i (f).length k, .slice j (b).length m, .slice q (c).length r]) R ?_
 have o : Ev [] B B := Ev.refl _ _
 have H : FR B.heap.size [] := FR.nil _
 refine c_sp (x_u 1 [(6, .bool false)] (x_ek (c_seq (c_sp (x_u 2 [(10, .slice i (f).length k), (11, .slice j (b).length m)] ?_)))))
 obtain ⟨ad, ao, a⟩ := bind_some a
 have ak := assign_check_w i k f j m b _ B (fl [t]) (MS.fold (P := []) z) (v.sub fl1) (w.sub fl1) ao
 refine x_call 71 #[] #[] [.slice i (f).length k, .slice j (b).length m] _ R R R R ak ?_
 rintro ar aX ⟨rfl, Z⟩
 clear ak ao
 refine inl1 ?_
 have s := Stp.ext (ls := [t]) Z
 replace v := v.step s
 replace w := w.step s
 replace A := A.step s
 replace z := z.ev Z
 replace o := o.ext Z
 refine x_u 2 [(13, .bool (ad != 0)), (14, .bool (ad != 0))] (x_if 14 (ad != 0) R a (fun a => ?_) (fun a => ?_))
 · refine x_u 6 [(15, undef), (16, undef), (17, undef), (18, undef), (19, undef), (20, .bool true)] (x_ek (c_true R (c_sp (x_u 1 [(6, .bool false)] (x_ek (c_nm [(6, .bool false)] (fun E => ?_)))))))
   refine c_ret (k_then_ret (r_ret (r_vals [.bool false] ⟨R, trivial⟩ ?_)))
   obtain rfl := some_inj a
   exact ⟨R, o⟩
 refine x_u 1 [(15, .slice q (c).length r)] (x_len (vs := [.slice q (c).length r]) (Vi ((c).length : Int)) R R R (reads_len tsl22 _ _ _ _ _) (x_u 1 [(17, .slice i (f).length k)] (x_len (vs := [.slice i (f).length k]) (Vi ((f).length : Int)) R R R (reads_len tsl22 _ _ _ _ _) (x_u 2 [(19, .bool (((c).length : Int) != ((f).length : Int))), (20, .bool (((c).length : Int) != ((f).length : Int)))] (x_ek (c_if (((c).length : Int) != ((f).length : Int)) R a (fun a => ?_) (fun a => ?_)))))))
 · refine c_sp (x_u 1 [(6, .bool false)] (x_ek (c_nm [(6, .bool false)] (fun E => ?_))))
   refine c_ret (k_then_ret (r_ret (r_vals [.bool false] ⟨R, trivial⟩ ?_)))
   obtain rfl := some_inj a
   exact ⟨R, o⟩
 refine c_skip (k_then (c_nm [(0, .slice i (f).length k), (1, .slice j (b).length m), (2, .slice q (c).length r)] (fun E => ?_)))
 refine c_sp (x_u 1 [(21, .slice j (b).length m)] (x_len (vs := [.slice j (b).length m]) (Vi ((b).length : Int)) R R R (reads_len tsl22 _ _ _ _ _) ?_))
 have al := guard_l a
 replace a := guard_r a
 obtain ⟨h, u, aY, aJ, aa, ab, an⟩ := own_make (e := eBool) tel111 aX ((b).length : Int) al.1 al.2 false (fun _ _ => R)
 refine x_makeSlice _ aY (xv := Vi ((b).length : Int)) (yv := Vi ((b).length : Int)) R R R R aJ (inl1 ?_)
 have s := Stp.push (ls := [t]) (l := blk h) aa (fun _ a => by cases a) (fun K L => (ab K L).1)
 replace v := v.step s
 replace w := w.step s
 replace A := A.step s
 replace z := z.push aa ab
 replace H := H.push (fun K L => Nat.le_trans o.size (ab K L).1)
 replace o := o.ext aa
 have F := an (fl [blk h, t])
 clear an
 refine x_u 1 [(7, .slice h ((List.replicate (Int.toNat ((b).length : Int)) false : List Bool)).length u)] (x_ek (c_seq (c_sp (x_u 1 [(24, .slice q (c).length r)] (x_len (vs := [.slice q (c).length r]) (Vi ((c).length : Int)) R R R (reads_len tsl22 _ _ _ _ _) (x_u 1 [(26, Vi 0)] (x_ek (c_block ?_))))))))
 obtain ⟨au, X, I⟩ := bind_some a
 obtain ⟨J, X⟩ := loop_some X
 refine c_loop (loop_rule hmx (σ := Nat × (List Bool) × Int) (fun N => match N with | (_, p, g) => [(0, .slice i (f).length k), (1, .slice j (b).length m), (7, .slice h (p).length u), (24, .slice q (c).length r), (25, Vi ((c).length : Int)), (26, Vi g)]) (fun N G => match N with | (aS, p, g) => loopN (assign_Fits_L9 f b c) aS (p, g) = some au ∧ Ev [] B G ∧ MS G [blk h, t] ∧ FR B.heap.size [blk h] ∧ SlR (eInt .i64) G (fl [blk h, t]) i k f ∧ SlR (eInt .i64) G (fl [blk h, t]) j m b ∧ OwnS eBool 4 G (fl [blk h, t]) h u p ∧ SlR (eInt .i64) G (fl [blk h, t]) q r c) (fun N => N.1) (J, (List.replicate (Int.toNat ((b).length : Int)) false : List Bool), 0) ⟨R, R, R, R, R, R, trivial⟩ ⟨X, o, z, H, v, w, F, A⟩ ?_)
 rintro ⟨J, p, g⟩ E S ⟨C, o, z, H, v, w, F, A⟩
 rcases J with _ | J
 · exact (loopN_zero C).elim
 obtain ⟨a7, a, C⟩ := bind_some C
 refine c_sp (x_u 1 [(27, .bool (decide (g < ((c).length : Int))))] (x_ek (c_nm [(0, .slice i (f).length k), (1, .slice j (b).length m), (7, .slice h (p).length u), (24, .slice q (c).length r), (25, Vi ((c).length : Int)), (26, Vi g), (27, .bool (decide (g < ((c).length : Int))))] (fun E => ?_))))
 refine c_seq (c_if (decide (g < ((c).length : Int))) R a (fun a => ?_) (fun a => ?_))
 · refine c_skip (k_then (c_seq (c_block (c_sp (x_u 1 [(28, Vi g)] ?_)))))
   obtain ⟨d, aK, a⟩ := bind_some a
   obtain ⟨ae, aZ, aC, aw, x⟩ := reads_index (Mo := []) tsl22 A aK
   obtain rfl := x
   refine x_indexAddr (xv := .slice q (c).length r) (yv := Vi g) (.pointer (some ae)) R R R R aC (x_load (xv := .pointer (some ae)) (Vi d) R R R (reads_cell0 tcell3 aw (fun _ a => by cases a)) ?_)
   refine x_u 2 [(8, Vi g), (9, Vi d)] (x_ek (c_seq (c_sp (x_u 2 [(31, .slice i (f).length k), (32, Vi g)] ?_))))
   obtain ⟨ac, aL, a⟩ := bind_some a
   obtain ⟨af, a0, aD, ax, x⟩ := reads_index (Mo := []) tsl22 v aL
   obtain rfl := x
   refine x_indexAddr (xv := .slice i (f).length k) (yv := Vi g) (.pointer (some af)) R R R R aD (x_load (xv := .pointer (some af)) (Vi ac) R R R (reads_cell0 tcell3 ax (fun _ a => by cases a)) ?_)
   refine x_u 1 [(35, .bool (ac == 0))] (x_ek (c_if (ac == 0) R a (fun a => ?_) (fun a => ?_)))
   · refine c_seq (c_sp (x_u 2 [(36, Vi d), (37, .bool (d != (-1)))] (x_ek (c_nm [(0, .slice i (f).length k), (1, .slice j (b).length m), (7, .slice h (p).length u), (24, .slice q (c).length r), (25, Vi ((c).length : Int)), (26, Vi g), (37, .bool (d != (-1)))] (fun E => ?_)))))
     refine c_if (d != (-1)) R a (fun a => ?_) (fun a => ?_)
     · refine c_sp (x_u 1 [(6, .bool false)] (x_ek (c_ret (k_then_ret (k_then_ret (k_block_ret (k_then_ret ?_)))))))
       obtain rfl := some_inj a
       have D := some_inj C
       subst D
       replace a := I
       refine k_then_ret (k_block_ret (k_then_ret (r_ret (r_vals [.bool false] ⟨R, trivial⟩ ?_))))
       obtain rfl := some_inj a
       exact ⟨R, o⟩
     refine c_skip (k_then (c_exit (k_then_exit (k_block_in (k_then (c_plain (x_u 2 [(66, Vi (i64.wrap (g + 1))), (26, Vi (i64.wrap (g + 1)))] (x_end R ?_))))))))
     obtain rfl := some_inj a
     exact k_then ⟨(J, p, i64.wrap (g + 1)), ⟨R, R, R, R, R, R, trivial⟩, ⟨C, o, z, H, v, w, F, A⟩, Nat.lt_succ_self _⟩
   refine c_skip (k_then (c_seq (c_seq (c_drawn [] [(0, false), (1, false), (2, false), (3, false), (4, false), (5, false), (6, false), (7, false), (8, false), (9, false), (10, false), (11, false), (12, false), (13, false), (14, false), (15, false), (16, false), (17, false), (18, false), (19, false), (20, false), (21, false), (22, false), (23, false), (24, false)] _ (by kernel_rfl) R ?_))))
   have s := Stp.ext (ls := [blk h, t]) (Ev.drew S)
   replace v := v.step s
   replace w := w.step s
   replace F := F.step s (Ev.drew S) nn2
   replace A := A.step s
   replace z := z.ev (Ev.drew S)
   replace o := o.ext (Ev.drew S)
   refine x_u 3 [(38, Vi d), (39, .bool (decide (d < 0))), (40, .bool (decide (d < 0)))] (x_if 40 (decide (d < 0)) R a (fun a => ?_) (fun a => ?_))
   · refine x_u 22 [(41, undef), (42, undef), (43, undef), (44, undef), (45, .bool true), (46, .bool true), (47, undef), (48, undef), (49, undef), (50, undef), (51, .bool true), (52, .bool true), (53, undef), (54, undef), (55, undef), (56, undef), (57, undef), (58, undef), (59, undef), (60, undef), (61, undef), (62, .bool true)] (x_ek (c_nm [(0, .slice i (f).length k), (1, .slice j (b).length m), (7, .slice h (p).length u), (9, Vi d), (24, .slice q (c).length r), (25, Vi ((c).length : Int)), (26, Vi g), (62, .bool true)] (fun E => ?_)))
     refine c_true R (c_sp (x_u 1 [(6, .bool false)] (x_ek (c_ret (k_then_ret (k_block_ret (k_then_ret ?_)))))))
     obtain rfl := some_inj a
     have D := some_inj C
     subst D
     replace a := I
     refine k_then_ret (k_block_ret (k_then_ret (r_ret (r_vals [.bool false] ⟨R, trivial⟩ ?_))))
     obtain rfl := some_inj a
     exact ⟨R, o⟩
   refine x_u 2 [(41, Vi d), (42, .slice j (b).length m)] (x_len (vs := [.slice j (b).length m]) (Vi ((b).length : Int)) R R R (reads_len tsl22 _ _ _ _ _) (x_u 3 [(44, .bool (decide (d ≥ ((b).length : Int)))), (45, .bool (decide (d ≥ ((b).length : Int)))), (46, .bool (decide (d ≥ ((b).length : Int))))] (x_if 46 (decide (d ≥ ((b).length : Int))) R a (fun a => ?_) (fun a => ?_))))
   · refine x_u 16 [(47, undef), (48, undef), (49, undef), (50, undef), (51, .bool true), (52, .bool true), (53, undef), (54, undef), (55, undef), (56, undef), (57, undef), (58, undef), (59, undef), (60, undef), (61, undef), (62, .bool true)] (x_ek (c_nm [(0, .slice i (f).length k), (1, .slice j (b).length m), (7, .slice h (p).length u), (9, Vi d), (24, .slice q (c).length r), (25, Vi ((c).length : Int)), (26, Vi g), (62, .bool true)] (fun E => ?_)))
     refine c_true R (c_sp (x_u 1 [(6, .bool false)] (x_ek (c_ret (k_then_ret (k_block_ret (k_then_ret ?_)))))))
     obtain rfl := some_inj a
     have D := some_inj C
     subst D
     replace a := I
     refine k_then_ret (k_block_ret (k_then_ret (r_ret (r_vals [.bool false] ⟨R, trivial⟩ ?_))))
     obtain rfl := some_inj a
     exact ⟨R, o⟩
   refine x_u 2 [(47, .slice h (p).length u), (48, Vi d)] ?_
   obtain ⟨U, aN, a⟩ := bind_some a
   obtain ⟨ai, a1, a5, aE, ay, x⟩ := own_index (Mo := []) tsl111 F aN
   obtain rfl := x
   refine x_indexAddr (xv := .slice h (p).length u) (yv := Vi d) (.pointer (some ⟨ai, (Int.toNat d) * eBool.n, none⟩)) R R R R aE (x_load (xv := .pointer (some ⟨ai, (Int.toNat d) * eBool.n, none⟩)) (.bool U) R R R (reads_cell0 tcell4 ay (fun _ a => by cases a)) ?_)
   refine x_u 2 [(51, .bool U), (52, .bool U)] (x_if 52 U R a (fun a => ?_) (fun a => ?_))
   · refine x_u 10 [(53, undef), (54, undef), (55, undef), (56, undef), (57, undef), (58, undef), (59, undef), (60, undef), (61, undef), (62, .bool true)] (x_ek (c_nm [(0, .slice i (f).length k), (1, .slice j (b).length m), (7, .slice h (p).length u), (9, Vi d), (24, .slice q (c).length r), (25, Vi ((c).length : Int)), (26, Vi g), (62, .bool true)] (fun E => ?_)))
     refine c_true R (c_sp (x_u 1 [(6, .bool false)] (x_ek (c_ret (k_then_ret (k_block_ret (k_then_ret ?_)))))))
     obtain rfl := some_inj a
     have D := some_inj C
     subst D
     replace a := I
     refine k_then_ret (k_block_ret (k_then_ret (r_ret (r_vals [.bool false] ⟨R, trivial⟩ ?_))))
     obtain rfl := some_inj a
     exact ⟨R, o⟩
   refine x_u 2 [(53, .slice j (b).length m), (54, Vi d)] ?_
   obtain ⟨O, aO, a⟩ := bind_some a
   obtain ⟨ag, a2, aF, az, x⟩ := reads_index (Mo := []) tsl22 w aO
   obtain rfl := x
   refine x_indexAddr (xv := .slice j (b).length m) (yv := Vi d) (.pointer (some ag)) R R R R aF (x_load (xv := .pointer (some ag)) (Vi O) R R R (reads_cell0 tcell3 az (fun _ a => by cases a)) ?_)
   refine x_u 2 [(57, .slice i (f).length k), (58, Vi g)] ?_
   obtain ⟨Q, aQ, a⟩ := bind_some a
   obtain ⟨ah, a3, aG, aA, x⟩ := reads_index (Mo := []) tsl22 v aQ
   obtain rfl := x
   refine x_indexAddr (xv := .slice i (f).length k) (yv := Vi g) (.pointer (some ah)) R R R R aG (x_load (xv := .pointer (some ah)) (Vi Q) R R R (reads_cell0 tcell3 aA (fun _ a => by cases a)) ?_)
   refine x_u 2 [(61, .bool (decide (O < Q))), (62, .bool (decide (O < Q)))] (x_ek (c_nm [(0, .slice i (f).length k), (1, .slice j (b).length m), (7, .slice h (p).length u), (9, Vi d), (24, .slice q (c).length r), (25, Vi ((c).length : Int)), (26, Vi g), (62, .bool (decide (O < Q)))] (fun E => ?_)))
   refine c_if (decide (O < Q)) R a (fun a => ?_) (fun a => ?_)
   · refine c_sp (x_u 1 [(6, .bool false)] (x_ek (c_ret (k_then_ret (k_block_ret (k_then_ret ?_))))))
     obtain rfl := some_inj a
     have D := some_inj C
     subst D
     replace a := I
     refine k_then_ret (k_block_ret (k_then_ret (r_ret (r_vals [.bool false] ⟨R, trivial⟩ ?_))))
     obtain rfl := some_inj a
     exact ⟨R, o⟩
   refine c_skip (k_then (c_plain (x_u 2 [(63, .slice h (p).length u), (64, Vi d)] ?_)))
   obtain ⟨a8, ap, a⟩ := bind_some a
   obtain ⟨aj, a4, av, aH, a6, x⟩ := own_index (Mo := []) tsl111 F ap
   obtain rfl := x
   refine x_indexAddr (xv := .slice h (p).length u) (yv := Vi d) (.pointer (some ⟨aj, (Int.toNat d) * eBool.n, none⟩)) R R R R aH ?_
   obtain ⟨aU, aI, Y, aB⟩ := own_storeE av (y := true) 0 (.bool true) tcell4 F (mem_flat 0 R) ap R R (fun _ _ _ x => set_bool x)
   refine x_store aU (xv := .pointer (some ⟨aj, (Int.toNat d) * eBool.n, none⟩)) (yv := .bool true) R R R R aI (inl1 ?_)
   have s := Stp.ev' (ls := [blk h, t]) Y (mem_flat 0 R)
   replace v := v.step s
   replace w := w.step s
   replace A := A.step s
   replace z := z.ev Y
   replace o := o.then Y (fun K L => .inr (H.at 0 R K L))
   replace F := aB
   have am : (Value.slice h (p).length u) = (Value.slice h ((p.set (Int.toNat d) true)).length u) := by first | (rw [List.length_set]; done) | simp only [List.length_set]
   try rw [am]
   clear am
   refine x_end R (k_block (k_then (c_plain (x_u 2 [(66, Vi (i64.wrap (g + 1))), (26, Vi (i64.wrap (g + 1)))] (x_end R ?_)))))
   obtain rfl := some_inj a
   exact k_then ⟨(J, (p.set (Int.toNat d) true), i64.wrap (g + 1)), ⟨R, R, R, R, R, R, trivial⟩, ⟨C, o, z, H, v, w, F, A⟩, Nat.lt_succ_self _⟩
 refine c_exit (k_then_exit ?_)
 obtain rfl := some_inj a
 have D := some_inj C
 subst D
 replace a := I
 refine k_then_exit (k_block_in (k_then (c_norm [] trivial (fun E => ?_))))
 refine c_sp (x_u 1 [(6, .bool true)] (x_ek (c_ret (r_ret (r_vals [.bool true] ⟨R, trivial⟩ ?_)))))
 obtain rfl := some_inj a
 exact ⟨R, o⟩
end Go.Proofs.YtlejnkhaphlooaaGreat
