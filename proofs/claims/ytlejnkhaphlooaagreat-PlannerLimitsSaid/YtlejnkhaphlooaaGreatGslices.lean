
/- Walks, printed by program: each function returns what the partial function of the same name returns. Conditions: those of each theorem. -/
import Derived.Test.YtlejnkhaphlooaaGreatGT
set_option linter.unusedVariables false
set_option linter.unusedSimpArgs false
set_option maxRecDepth 4000
namespace Go.Proofs.YtlejnkhaphlooaaGreat
open Go Go.V Go.Proofs Go.IntKind
def slices_Clone_humpyard_api_Item_humpyard_api_Item_ (a : List (Int × Int × Int × Int)) : Option (List (Int × Int × Int × Int)) :=
(if ([] : List (Int × Int × Int × Int)).length + a.length ≤ 4294967296 then
some (([] : List (Int × Int × Int × Int)) ++ a)
else none)
theorem slices_Clone_humpyard_api_Item_humpyard_api_Item__w (h : Option Addr) (j : Nat) (e : List (Int × Int × Int × Int)) (p : (List (Int × Int × Int × Int))) (g : World) (a : List Nat) (n : MS g [a]) (q : SlR (eIt4) g (fl [a]) h j e) (d : slices_Clone_humpyard_api_Item_humpyard_api_Item_ e = some p) : CallVC Tryz.prog 87 [Vl h e j] g fun U C => ∃ (o : Option Addr), ∃ (F : Nat), U = Vl o p F ∧ Ev [] g C ∧ MS C [blk o, a] ∧ FR g.heap.size [blk o] ∧ OwnS (eIt4) 76 C (fl [blk o, a]) o F p := by
 refine calls_vc hmx Tryz.func87 (by kernel_rfl) R (rs := [.tmp 2]) R (by kernel_rfl) (args := [Vl h e j]) R ?_
 have i : Ev [] g g := Ev.refl _ _
 have k : FR g.heap.size [] := FR.nil _
 refine c_sp (x_u 1 [(2, .slice none 0 0)] (x_ek (c_seq (c_sp (x_u 1 [(3, Vl h e j)] (x_binop (.bool h.isNone) (Vl h e j) (.slice none 0 0) R R R R (vb_slnil tuns36 _ _ _) (x_ek (c_cond h.isNone R (fun b => ?_) (fun b => ?_)))))))))
 · have N := SlR.nil_of q b
   replace d : (if ([] : List (Int × Int × Int × Int)).length + e.length ≤ 4294967296 then
some (([] : List (Int × Int × Int × Int)) ++ e)
else none) = some p := d
   replace d : some ([]) = some p := by rw [N] at d; simpa using d
   refine c_sp (x_u 1 [(2, .slice none 0 0)] (x_ek (c_ret (k_then_ret (r_ret (r_vals [.slice none 0 0] ⟨R, trivial⟩ ?_))))))
   obtain rfl := some_inj d
   have x := n.pick [none, some 0] [blk none, a] R
   have w := k.pick [none] [blk none] R
   exact ⟨none, 0, R, i, x, w, OwnS.nil _ _ _ _⟩
 refine c_skip (k_then (c_sp (x_buildSlice (vs := []) #[] 76 R R R (by kernel_rfl) (fun K D O t u Y => ?_))))
 refine inl1 ?_
 obtain ⟨m, s⟩ : ∃ J, J = some (⟨K, 0, none⟩ : Addr) := ⟨_, R⟩
 have H : ∀ a, OwnS (eIt4) 76 D a m 0 ([] : List (Int × Int × Int × Int)) := fun a => s ▸ own_of_box t (by decide) R R (cells_at (cs := []) CellsOf.nil)
 have y : ∀ c ∈ blk m, g.heap.size ≤ c ∧ c < D.heap.size := by subst s; intro c b; simp only [blk, List.mem_singleton] at b; subst b; exact ⟨Nat.le_of_eq O.symm, lt_of_heap t⟩
 clear t
 have B := Stp.push (ls := [a]) (l := blk m) u (fun _ d => by cases d) (fun c b => (y c b).1)
 replace q := q.step B
 replace n := n.push u y
 replace k := k.push (fun c b => Nat.le_trans i.size (y c b).1)
 replace i := i.ext u
 have A := H (fl [blk m, a])
 clear H
 rw [← s]
 refine x_u 1 [(6, Vl h e j)] ?_
 have L := guard_l d
 replace d := guard_r d
 obtain ⟨f, r, E, Q, v, z, X, I⟩ := own_appendN tel36 36 A (mem_flat 0 R) q L
 refine x_builtin (vs := [.slice m (([] : List (Int × Int × Int × Int))).length 0, Vl h e j]) _ E R R R R (run_value _ _ _ _ Q) (inl1 ?_)
 have B : Stp (fl [blk m, a]) D (fl [blk f, a]) E := Stp.upd 0 v R (fun c b => (z c b).1)
 replace n : MS E [blk f, a] := n.upd 0 v R z
 have G : FR g.heap.size [blk f] := k.upd 0 R i.size (fun c b => (z c b).1)
 replace i := i.then v (fun c b => .inr (k.at 0 R c b))
 replace k := G
 clear G
 replace A := I (fl [blk f, a]) B.new
 clear I
 refine x_u 1 [(2, .slice f ((([] : List (Int × Int × Int × Int)) ++ e)).length r)] (x_ek (c_ret (r_ret (r_vals [.slice f ((([] : List (Int × Int × Int × Int)) ++ e)).length r] ⟨R, trivial⟩ ?_))))
 obtain rfl := some_inj d
 have x := n.pick [some 0, some 1] [blk f, a] R
 have S := pick_sub (ls := [blk f, a]) [some 0, some 1] [blk f, a] R
 have w := k.pick [some 0] [blk f] R
 exact ⟨f, r, R, i, x, w, A.sub S⟩
def slices_Max_int_int__L5 (c : List Int) (e : Int × Int) : Option (Step (Int × Int) Int) :=
match e with
| (b, a) =>
(if (decide (a < ((c).length : Int))) = true then
((idx c a).bind fun d =>
some (.next (if d > b then d else b, i64.wrap (a + 1))))
else
some (.done b))
def slices_Max_int_int_ (a : List Int) : Option Int :=
(if (decide (((a).length : Int) < 1)) = true then
none
else
((idx a 0).bind fun d =>
((loop (slices_Max_int_int__L5 a) (d, 1)).bind fun b => match b with
| c => some c)))
theorem slices_Max_int_int__w (e : Option Addr) (f : Nat) (a : List Int) (x : Int) (g : World) (n : List Nat) (s : MS g [n]) (j : SlR (eInt .i64) g (fl [n]) e f a) (b : slices_Max_int_int_ a = some x) : CallVC Tryz.prog 83 [Vl e a f] g fun I m => I = Vi x ∧ Ev [] g m := by
 refine calls_vc hmx Tryz.func83 (by kernel_rfl) R (rs := [.tmp 2]) R (by kernel_rfl) (args := [Vl e a f]) R ?_
 have o : Ev [] g g := Ev.refl _ _
 have r : FR g.heap.size [] := FR.nil _
 refine c_sp (x_u 1 [(2, Vi 0)] (x_ek (c_seq (c_sp (x_u 1 [(5, Vl e a f)] (x_len (vs := [Vl e a f]) (Vi ((a).length : Int)) R R R (reads_len tsl22 _ _ _ _ _) (x_u 1 [(7, .bool (decide (((a).length : Int) < 1)))] (x_ek (c_if (decide (((a).length : Int) < 1)) R b (fun b => ?_) (fun b => ?_))))))))))
 · refine c_plain ?_
   cases b
 refine c_skip (k_then (c_sp (x_u 1 [(9, Vl e a f)] ?_)))
 obtain ⟨t, E, b⟩ := bind_some b
 obtain ⟨v, J, C, A, p⟩ := reads_index (Mo := []) tsl22 j E
 obtain rfl := p
 refine x_indexAddr (xv := Vl e a f) (yv := Vi 0) (.pointer (some v)) R R R R C (x_load (xv := .pointer (some v)) (Vi t) R R R (reads_cell0 tcell3 A (fun _ b => by cases b)) ?_)
 refine x_u 1 [(3, Vi t)] (x_ek (c_seq (c_sp (x_u 1 [(4, Vi 1)] (x_ek (c_block ?_))))))
 obtain ⟨y, q, z⟩ := bind_some b
 obtain ⟨k, q⟩ := loop_some q
 refine c_loop (loop_rule hmx (σ := Nat × Int × Int) (fun l => match l with | (_, c, d) => [(0, Vl e a f), (3, Vi c), (4, Vi d)]) (fun l m => match l with | (H, c, d) => loopN (slices_Max_int_int__L5 a) H (c, d) = some y ∧ Ev [] g m ∧ MS m [n] ∧ FR g.heap.size [] ∧ SlR (eInt .i64) m (fl [n]) e f a) (fun l => l.1) (k, t, 1) ⟨R, R, R, trivial⟩ ⟨q, o, s, r, j⟩ ?_)
 rintro ⟨k, c, d⟩ u N ⟨i, o, s, r, j⟩
 rcases k with _ | k
 · exact (loopN_zero i).elim
 obtain ⟨L, b, i⟩ := bind_some i
 refine c_seq (c_sp (x_u 2 [(12, Vi d), (13, Vl e a f)] (x_len (vs := [Vl e a f]) (Vi ((a).length : Int)) R R R (reads_len tsl22 _ _ _ _ _) (x_u 1 [(15, .bool (decide (d < ((a).length : Int))))] (x_ek (c_nm [(0, Vl e a f), (3, Vi c), (4, Vi d), (15, .bool (decide (d < ((a).length : Int))))] (fun u => ?_)))))))
 refine c_if (decide (d < ((a).length : Int))) R b (fun b => ?_) (fun b => ?_)
 · refine c_skip (k_then (c_seq (c_block (c_plain (x_u 3 [(18, Vi c), (19, Vl e a f), (20, Vi d)] ?_)))))
   obtain ⟨h, F, b⟩ := bind_some b
   obtain ⟨w, K, D, B, p⟩ := reads_index (Mo := []) tsl22 j F
   obtain rfl := p
   refine x_indexAddr (xv := Vl e a f) (yv := Vi d) (.pointer (some w)) R R R R D (x_load (xv := .pointer (some w)) (Vi h) R R R (reads_cell0 tcell3 B (fun _ b => by cases b)) ?_)
   refine x_max (vs := [Vi c, Vi h]) (Vi (if h > c then h else c)) R R R (fun _ _ => R) (x_u 1 [(3, Vi (if h > c then h else c))] (x_end R (k_block (k_then (c_plain (x_u 3 [(16, Vi d), (17, Vi (i64.wrap (d + 1))), (4, Vi (i64.wrap (d + 1)))] (x_end R ?_)))))))
   obtain rfl := some_inj b
   exact k_then ⟨(k, if h > c then h else c, i64.wrap (d + 1)), ⟨R, R, R, trivial⟩, ⟨i, o, s, r, j⟩, Nat.lt_succ_self _⟩
 refine c_exit (k_then_exit ?_)
 obtain rfl := some_inj b
 have G := some_inj i
 subst G
 replace b := z
 refine k_then_exit (k_block_in (k_then (c_nm [(3, Vi c)] (fun u => ?_))))
 refine c_sp (x_u 2 [(24, Vi c), (2, Vi c)] (x_ek (c_ret (r_ret (r_vals [Vi c] ⟨R, trivial⟩ ?_)))))
 obtain rfl := some_inj b
 exact ⟨R, o⟩
def slices_Index_int_int__L2 (b : List Int) (c : Int) (d : Int) : Option (Step Int (Int ⊕ Unit)) :=
match d with
| a =>
(if (decide (a < ((b).length : Int))) = true then
((idx b a).bind fun e =>
(if (c == e) = true then
some (.done (.inl a))
else
some (.next (i64.wrap (a + 1)))))
else
some (.done (.inr ())))
def slices_Index_int_int_ (b : List Int) (c : Int) : Option Int :=
((loop (slices_Index_int_int__L2 b c) 0).bind fun a => match a with
| (.inl d) => some d
| (.inr _) => some (-1))
theorem slices_Index_int_int__w (d : Option Addr) (e : Nat) (b : List Int) (f : Int) (w : Int) (g : World) (m : List Nat) (q : MS g [m]) (n : SlR (eInt .i64) g (fl [m]) d e b) (a : slices_Index_int_int_ b f = some w) : CallVC Tryz.prog 82 [Vl d b e, Vi f] g fun D l => D = Vi w ∧ Ev [] g l := by
 refine calls_vc hmx Tryz.func82 (by kernel_rfl) R (rs := [.tmp 4]) R (by kernel_rfl) (args := [Vl d b e, Vi f]) R ?_
 have i : Ev [] g g := Ev.refl _ _
 have p : FR g.heap.size [] := FR.nil _
 refine c_sp (x_u 1 [(4, Vi 0)] (x_ek (c_seq (c_sp (x_u 1 [(6, Vl d b e)] (x_len (vs := [Vl d b e]) (Vi ((b).length : Int)) R R R (reads_len tsl22 _ _ _ _ _) (x_u 1 [(8, Vi 0)] (x_ek (c_block ?_)))))))))
 obtain ⟨x, o, v⟩ := bind_some a
 obtain ⟨j, o⟩ := loop_some o
 refine c_loop (loop_rule hmx (σ := Nat × Int) (fun k => match k with | (_, c) => [(0, Vl d b e), (1, Vi f), (7, Vi ((b).length : Int)), (8, Vi c)]) (fun k l => match k with | (C, c) => loopN (slices_Index_int_int__L2 b f) C c = some x ∧ Ev [] g l ∧ MS l [m] ∧ FR g.heap.size [] ∧ SlR (eInt .i64) l (fl [m]) d e b) (fun k => k.1) (j, 0) ⟨R, R, R, R, trivial⟩ ⟨o, i, q, p, n⟩ ?_)
 rintro ⟨j, c⟩ t G ⟨h, i, q, p, n⟩
 rcases j with _ | j
 · exact (loopN_zero h).elim
 obtain ⟨F, a, h⟩ := bind_some h
 refine c_sp (x_u 1 [(9, .bool (decide (c < ((b).length : Int))))] (x_ek (c_nm [(0, Vl d b e), (1, Vi f), (7, Vi ((b).length : Int)), (8, Vi c), (9, .bool (decide (c < ((b).length : Int))))] (fun t => ?_))))
 refine c_seq (c_if (decide (c < ((b).length : Int))) R a (fun a => ?_) (fun a => ?_))
 · refine c_skip (k_then (c_seq (c_block (c_sp (x_u 2 [(10, Vi c), (5, Vi c)] (x_ek (c_sp (x_u 3 [(11, Vi f), (12, Vl d b e), (13, Vi c)] ?_))))))))
   obtain ⟨s, B, a⟩ := bind_some a
   obtain ⟨u, E, A, z, y⟩ := reads_index (Mo := []) tsl22 n B
   obtain rfl := y
   refine x_indexAddr (xv := Vl d b e) (yv := Vi c) (.pointer (some u)) R R R R A (x_load (xv := .pointer (some u)) (Vi s) R R R (reads_cell0 tcell3 z (fun _ a => by cases a)) ?_)
   refine x_u 1 [(16, .bool (f == s))] (x_ek (c_if (f == s) R a (fun a => ?_) (fun a => ?_)))
   · refine c_sp (x_u 2 [(17, Vi c), (4, Vi c)] (x_ek (c_ret (k_block_ret (k_then_ret ?_)))))
     obtain rfl := some_inj a
     have r := some_inj h
     subst r
     replace a := v
     refine k_then_ret (k_block_ret (k_then_ret (r_ret (r_vals [Vi c] ⟨R, trivial⟩ ?_))))
     obtain rfl := some_inj a
     exact ⟨R, i⟩
   refine c_skip (k_block (k_then (c_plain (x_u 2 [(18, Vi (i64.wrap (c + 1))), (8, Vi (i64.wrap (c + 1)))] (x_end R ?_)))))
   obtain rfl := some_inj a
   exact k_then ⟨(j, i64.wrap (c + 1)), ⟨R, R, R, R, trivial⟩, ⟨h, i, q, p, n⟩, Nat.lt_succ_self _⟩
 refine c_exit (k_then_exit ?_)
 obtain rfl := some_inj a
 have r := some_inj h
 subst r
 replace a := v
 refine k_then_exit (k_block_in (k_then (c_norm [] trivial (fun t => ?_))))
 refine c_sp (x_u 1 [(4, Vi (-1))] (x_ek (c_ret (r_ret (r_vals [Vi (-1)] ⟨R, trivial⟩ ?_)))))
 obtain rfl := some_inj a
 exact ⟨R, i⟩
def slices_Clone_int_int_ (a : List Int) : Option (List Int) :=
(if ([] : List Int).length + a.length ≤ 4294967296 then
some (([] : List Int) ++ a)
else none)
theorem slices_Clone_int_int__w (h : Option Addr) (j : Nat) (e : List Int) (p : (List Int)) (g : World) (a : List Nat) (n : MS g [a]) (q : SlR (eInt .i64) g (fl [a]) h j e) (d : slices_Clone_int_int_ e = some p) : CallVC Tryz.prog 118 [Vl h e j] g fun U C => ∃ (o : Option Addr), ∃ (F : Nat), U = Vl o p F ∧ Ev [] g C ∧ MS C [blk o, a] ∧ FR g.heap.size [blk o] ∧ OwnS (eInt .i64) 3 C (fl [blk o, a]) o F p := by
 refine calls_vc hmx Tryz.func118 (by kernel_rfl) R (rs := [.tmp 2]) R (by kernel_rfl) (args := [Vl h e j]) R ?_
 have i : Ev [] g g := Ev.refl _ _
 have k : FR g.heap.size [] := FR.nil _
 refine c_sp (x_u 1 [(2, .slice none 0 0)] (x_ek (c_seq (c_sp (x_u 1 [(3, Vl h e j)] (x_binop (.bool h.isNone) (Vl h e j) (.slice none 0 0) R R R R (vb_slnil tuns22 _ _ _) (x_ek (c_cond h.isNone R (fun b => ?_) (fun b => ?_)))))))))
 · have N := SlR.nil_of q b
   replace d : (if ([] : List Int).length + e.length ≤ 4294967296 then
some (([] : List Int) ++ e)
else none) = some p := d
   replace d : some ([]) = some p := by rw [N] at d; simpa using d
   refine c_sp (x_u 1 [(2, .slice none 0 0)] (x_ek (c_ret (k_then_ret (r_ret (r_vals [.slice none 0 0] ⟨R, trivial⟩ ?_))))))
   obtain rfl := some_inj d
   have x := n.pick [none, some 0] [blk none, a] R
   have w := k.pick [none] [blk none] R
   exact ⟨none, 0, R, i, x, w, OwnS.nil _ _ _ _⟩
 refine c_skip (k_then (c_sp (x_buildSlice (vs := []) #[] 3 R R R (by kernel_rfl) (fun K D O t u Y => ?_))))
 refine inl1 ?_
 obtain ⟨m, s⟩ : ∃ J, J = some (⟨K, 0, none⟩ : Addr) := ⟨_, R⟩
 have H : ∀ a, OwnS (eInt .i64) 3 D a m 0 ([] : List Int) := fun a => s ▸ own_of_box t (by decide) R R (cells_at (cs := []) CellsOf.nil)
 have y : ∀ c ∈ blk m, g.heap.size ≤ c ∧ c < D.heap.size := by subst s; intro c b; simp only [blk, List.mem_singleton] at b; subst b; exact ⟨Nat.le_of_eq O.symm, lt_of_heap t⟩
 clear t
 have B := Stp.push (ls := [a]) (l := blk m) u (fun _ d => by cases d) (fun c b => (y c b).1)
 replace q := q.step B
 replace n := n.push u y
 replace k := k.push (fun c b => Nat.le_trans i.size (y c b).1)
 replace i := i.ext u
 have A := H (fl [blk m, a])
 clear H
 rw [← s]
 refine x_u 1 [(6, Vl h e j)] ?_
 have L := guard_l d
 replace d := guard_r d
 obtain ⟨f, r, E, Q, v, z, X, I⟩ := own_appendN tel22 22 A (mem_flat 0 R) q L
 refine x_builtin (vs := [.slice m (([] : List Int)).length 0, Vl h e j]) _ E R R R R (run_value _ _ _ _ Q) (inl1 ?_)
 have B : Stp (fl [blk m, a]) D (fl [blk f, a]) E := Stp.upd 0 v R (fun c b => (z c b).1)
 replace n : MS E [blk f, a] := n.upd 0 v R z
 have G : FR g.heap.size [blk f] := k.upd 0 R i.size (fun c b => (z c b).1)
 replace i := i.then v (fun c b => .inr (k.at 0 R c b))
 replace k := G
 clear G
 replace A := I (fl [blk f, a]) B.new
 clear I
 refine x_u 1 [(2, .slice f ((([] : List Int) ++ e)).length r)] (x_ek (c_ret (r_ret (r_vals [.slice f ((([] : List Int) ++ e)).length r] ⟨R, trivial⟩ ?_))))
 obtain rfl := some_inj d
 have x := n.pick [some 0, some 1] [blk f, a] R
 have S := pick_sub (ls := [blk f, a]) [some 0, some 1] [blk f, a] R
 have w := k.pick [some 0] [blk f] R
 exact ⟨f, r, R, i, x, w, A.sub S⟩
def slices_Index_string_string__L2 (b : List (List UInt8)) (c : List UInt8) (d : Int) : Option (Step Int (Int ⊕ Unit)) :=
match d with
| a =>
(if (decide (a < ((b).length : Int))) = true then
((idx b a).bind fun e =>
(if (c == e) = true then
some (.done (.inl a))
else
some (.next (i64.wrap (a + 1)))))
else
some (.done (.inr ())))
def slices_Index_string_string_ (b : List (List UInt8)) (c : List UInt8) : Option Int :=
((loop (slices_Index_string_string__L2 b c) 0).bind fun a => match a with
| (.inl d) => some d
| (.inr _) => some (-1))
theorem slices_Index_string_string__w (d : Option Addr) (e : Nat) (b : List (List UInt8)) (f : List UInt8) (w : Int) (g : World) (m : List Nat) (r : MS g [m]) (n : SlR eStr g (fl [m]) d e b) (a : slices_Index_string_string_ b f = some w) : CallVC Tryz.prog 75 [Vl d b e, Vs f] g fun D l => D = Vi w ∧ Ev [] g l := by
 refine calls_vc hmx Tryz.func75 (by kernel_rfl) R (rs := [.tmp 4]) R (by kernel_rfl) (args := [Vl d b e, Vs f]) R ?_
 have i : Ev [] g g := Ev.refl _ _
 have q : FR g.heap.size [] := FR.nil _
 refine c_sp (x_u 1 [(4, Vi 0)] (x_ek (c_seq (c_sp (x_u 1 [(6, Vl d b e)] (x_len (vs := [Vl d b e]) (Vi ((b).length : Int)) R R R (reads_len tsl29 _ _ _ _ _) (x_u 1 [(8, Vi 0)] (x_ek (c_block ?_)))))))))
 obtain ⟨x, p, v⟩ := bind_some a
 obtain ⟨j, p⟩ := loop_some p
 refine c_loop (loop_rule hmx (σ := Nat × Int) (fun k => match k with | (_, c) => [(0, Vl d b e), (1, Vs f), (7, Vi ((b).length : Int)), (8, Vi c)]) (fun k l => match k with | (C, c) => loopN (slices_Index_string_string__L2 b f) C c = some x ∧ Ev [] g l ∧ MS l [m] ∧ FR g.heap.size [] ∧ SlR eStr l (fl [m]) d e b) (fun k => k.1) (j, 0) ⟨R, R, R, R, trivial⟩ ⟨p, i, r, q, n⟩ ?_)
 rintro ⟨j, c⟩ t G ⟨h, i, r, q, n⟩
 rcases j with _ | j
 · exact (loopN_zero h).elim
 obtain ⟨F, a, h⟩ := bind_some h
 refine c_sp (x_u 1 [(9, .bool (decide (c < ((b).length : Int))))] (x_ek (c_nm [(0, Vl d b e), (1, Vs f), (7, Vi ((b).length : Int)), (8, Vi c), (9, .bool (decide (c < ((b).length : Int))))] (fun t => ?_))))
 refine c_seq (c_if (decide (c < ((b).length : Int))) R a (fun a => ?_) (fun a => ?_))
 · refine c_skip (k_then (c_seq (c_block (c_sp (x_u 2 [(10, Vi c), (5, Vi c)] (x_ek (c_sp (x_u 3 [(11, Vs f), (12, Vl d b e), (13, Vi c)] ?_))))))))
   obtain ⟨o, B, a⟩ := bind_some a
   obtain ⟨u, E, A, z, y⟩ := reads_index (Mo := []) tsl29 n B
   obtain rfl := y
   refine x_indexAddr (xv := Vl d b e) (yv := Vi c) (.pointer (some u)) R R R R A (x_load (xv := .pointer (some u)) (Vs o) R R R (reads_cell0 tcell9 z (fun _ a => by cases a)) ?_)
   refine x_binop (.bool (f == o)) (Vs f) (Vs o) R R R R (bin_seq) (x_ek (c_if (f == o) R a (fun a => ?_) (fun a => ?_)))
   · refine c_sp (x_u 2 [(17, Vi c), (4, Vi c)] (x_ek (c_ret (k_block_ret (k_then_ret ?_)))))
     obtain rfl := some_inj a
     have s := some_inj h
     subst s
     replace a := v
     refine k_then_ret (k_block_ret (k_then_ret (r_ret (r_vals [Vi c] ⟨R, trivial⟩ ?_))))
     obtain rfl := some_inj a
     exact ⟨R, i⟩
   refine c_skip (k_block (k_then (c_plain (x_u 2 [(18, Vi (i64.wrap (c + 1))), (8, Vi (i64.wrap (c + 1)))] (x_end R ?_)))))
   obtain rfl := some_inj a
   exact k_then ⟨(j, i64.wrap (c + 1)), ⟨R, R, R, R, trivial⟩, ⟨h, i, r, q, n⟩, Nat.lt_succ_self _⟩
 refine c_exit (k_then_exit ?_)
 obtain rfl := some_inj a
 have s := some_inj h
 subst s
 replace a := v
 refine k_then_exit (k_block_in (k_then (c_norm [] trivial (fun t => ?_))))
 refine c_sp (x_u 1 [(4, Vi (-1))] (x_ek (c_ret (r_ret (r_vals [Vi (-1)] ⟨R, trivial⟩ ?_)))))
 obtain rfl := some_inj a
 exact ⟨R, i⟩
end Go.Proofs.YtlejnkhaphlooaaGreat
