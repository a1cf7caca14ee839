
/- Walks, printed by program: each function returns what the partial function of the same name returns. Conditions: those of each theorem. -/
import Derived.Test.YtlejnkhaphlooaaGreatGT
set_option linter.unusedVariables false
set_option linter.unusedSimpArgs false
set_option maxRecDepth 4000
namespace Go.Proofs.YtlejnkhaphlooaaGreat
open Go Go.V Go.Proofs Go.IntKind
def job_in (a : Int) (b : Int) (c : Int) : Option Bool :=
(if (decide (a ≥ b)) = true then
some (decide (a ≤ c))
else
some false)
theorem job_in_w (a : Int) (c : Int) (b : Int) (h : Bool) (e : World) (d : job_in a c b = some h) : CallVC Tryz.prog 56 [Vi a, Vi c, Vi b] e fun j k => j = .bool h ∧ Ev [] e k := by
 refine calls_vc hmx Tryz.func56 (by kernel_rfl) R (rs := [.tmp 6]) R (by kernel_rfl) (args := [Vi a, Vi c, Vi b]) R ?_
 have f : Ev [] e e := Ev.refl _ _
 have m : MS e [[]] := ⟨List.pairwise_singleton _ _, fun n g l i => by simp only [List.mem_singleton] at g; subst g; cases i⟩
 refine c_sp (x_u 1 [(6, .bool false)] (x_ek (c_sp (x_u 4 [(7, Vi a), (8, Vi c), (9, .bool (decide (a ≥ c))), (10, .bool (decide (a ≥ c)))] (x_if 10 (decide (a ≥ c)) R d (fun d => ?_) (fun d => ?_))))))
 · refine x_u 5 [(11, Vi a), (12, Vi b), (13, .bool (decide (a ≤ b))), (14, .bool (decide (a ≤ b))), (6, .bool (decide (a ≤ b)))] (x_ek (c_ret (r_ret (r_vals [.bool (decide (a ≤ b))] ⟨R, trivial⟩ ?_))))
   obtain rfl := some_inj d
   exact ⟨R, f⟩
 refine x_u 5 [(11, undef), (12, undef), (13, undef), (14, .bool false), (6, .bool false)] (x_ek (c_ret (r_ret (r_vals [.bool false] ⟨R, trivial⟩ ?_))))
 obtain rfl := some_inj d
 exact ⟨R, f⟩
def job_Valid_L8 (c : List (Int × Int × Int × Int)) (d : Int) : Option (Step Int (Int ⊕ Unit)) :=
match d with
| a =>
(if (decide (a < ((c).length : Int))) = true then
((idx c a).bind fun b =>
((job_in b.1 0 15).bind fun e =>
(if (!e) = true then
some (.done (.inl 2))
else
((job_in b.2.1 0 31).bind fun f =>
(if (!f) = true then
some (.done (.inl 2))
else
((job_in b.2.2.1 0 12).bind fun g =>
(if (!g) = true then
some (.done (.inl 2))
else
((job_in b.2.2.2 1 400).bind fun h =>
(if (!h) = true then
some (.done (.inl 2))
else
(if (decide (a > 0)) = true then
((idx c (i64.wrap (a - 1))).bind fun i =>
(if (decide (b.2.2.1 < i.2.2.1)) = true then
some (.done (.inl 12))
else
some (.next (i64.wrap (a + 1)))))
else
some (.next (i64.wrap (a + 1)))))))))))))
else
some (.done (.inr ())))
def job_Valid (a : List (Int × Int × Int × Int)) (c : Int) : Option Int :=
(if (decide (((a).length : Int) > 96)) = true then
some 3
else
((job_in c 0 12).bind fun e =>
(if (!e) = true then
some 2
else
((loop (job_Valid_L8 a) 0).bind fun b => match b with
| (.inl d) => some d
| (.inr _) => some 0))))
theorem job_Valid_w (k : Option Addr) (l : Nat) (c : List (Int × Int × Int × Int)) (v : Int) (af : Int) (w : World) (n : List Nat) (j : MS w [n]) (h : SlR (eIt4) w (fl [n]) k l c) (a : job_Valid c v = some af) : CallVC Tryz.prog 46 [.agg #[Vl k c l, Vi v]] w fun B C => B = Vi af ∧ Ev [] w C := by
 refine calls_vc hmx Tryz.func46 (by kernel_rfl) R (rs := [.tmp 2]) R (by kernel_rfl) (args := [.agg #[Vl k c l, Vi v]]) R ?_
 have f : Ev [] w w := Ev.refl _ _
 have r : FR w.heap.size [] := FR.nil _
 refine c_sp (x_box (xv := .agg #[Vl k c l, Vi v]) R R R (fun b ah ac i aa aE => ?_))
 replace i : ah.heap[b]? = some (.cells #[Vl k c l, Vi v] 50 (0, 0)) := i
 refine inl1 ?_
 have o := Stp.box (ls := [n]) aa ac
 replace h := h.step o
 replace j := j.box aa ac i
 replace r := r.box f.size ac
 replace f := f.ext aa
 refine x_u 1 [(2, Vi 0)] (x_ek (c_seq (c_sp (x_fieldAddr (xv := Vp b 0) (Vp b 0) R R R (reads_field tfld50_0 _ _) (x_load (xv := Vp b 0) (Vl k c l) R R R (reads_box tcell36 i nn 0 _ R) (x_len (vs := [Vl k c l]) (Vi ((c).length : Int)) R R R (reads_len tsl36 _ _ _ _ _) (x_u 1 [(8, .bool (decide (((c).length : Int) > 96)))] (x_ek (c_if (decide (((c).length : Int) > 96)) R a (fun a => ?_) (fun a => ?_))))))))))
 · refine c_sp (x_u 1 [(2, Vi 3)] (x_ek (c_ret (k_then_ret (r_ret (r_vals [Vi 3] ⟨R, trivial⟩ ?_))))))
   obtain rfl := some_inj a
   exact ⟨R, f⟩
 refine c_skip (k_then (c_seq (c_sp (x_fieldAddr (xv := Vp b 0) (Vp b 1) R R R (reads_field tfld50_1 _ _) (x_load (xv := Vp b 1) (Vi v) R R R (reads_box tcell3 i nn 1 _ R) ?_)))))
 obtain ⟨ai, q, a⟩ := bind_some a
 have p := job_in_w v 0 12 _ ah q
 refine x_call 56 #[] #[] [Vi v, Vi 0, Vi 12] _ R R R R p ?_
 rintro B aG ⟨rfl, Q⟩
 clear p q
 refine inl1 ?_
 have o := Stp.ext (ls := [[b], n]) Q
 replace h := h.step o
 replace i := Q.box i nn
 replace j := j.ev Q
 replace f := f.ext Q
 refine x_u 1 [(12, .bool (!ai))] (x_ek (c_if (!ai) R a (fun a => ?_) (fun a => ?_)))
 · refine c_sp (x_u 1 [(2, Vi 2)] (x_ek (c_ret (k_then_ret (r_ret (r_vals [Vi 2] ⟨R, trivial⟩ ?_))))))
   obtain rfl := some_inj a
   exact ⟨R, f⟩
 refine c_skip (k_then (c_seq (c_sp (x_fieldAddr (xv := Vp b 0) (Vp b 0) R R R (reads_field tfld50_0 _ _) (x_load (xv := Vp b 0) (Vl k c l) R R R (reads_box tcell36 i nn 0 _ R) (x_len (vs := [Vl k c l]) (Vi ((c).length : Int)) R R R (reads_len tsl36 _ _ _ _ _) (x_u 1 [(16, Vi 0)] (x_ek (c_nm [(1, Vp b 0), (14, Vl k c l), (15, Vi ((c).length : Int)), (16, Vi 0)] (fun u => ?_))))))))))
 refine c_block ?_
 obtain ⟨ak, Z, y⟩ := bind_some a
 obtain ⟨A, Z⟩ := loop_some Z
 refine c_loop (loop_rule hmx (σ := Nat × Int) (fun J => match J with | (_, d) => [(1, Vp b 0), (14, Vl k c l), (15, Vi ((c).length : Int)), (16, Vi d)]) (fun J C => match J with | (aw, d) => loopN (job_Valid_L8 c) aw d = some ak ∧ Ev [] w C ∧ MS C [[b], n] ∧ FR w.heap.size [[b]] ∧ SlR (eIt4) C (fl [[b], n]) k l c ∧ C.heap[b]? = some (.cells #[Vl k c l, Vi v] 50 (0, 0))) (fun J => J.1) (A, 0) ⟨R, R, R, R, trivial⟩ ⟨Z, f, j, r, h, i⟩ ?_)
 rintro ⟨A, d⟩ u aH ⟨s, f, j, r, h, i⟩
 rcases A with _ | A
 · exact (loopN_zero s).elim
 obtain ⟨aF, a, s⟩ := bind_some s
 refine c_sp (x_u 1 [(17, .bool (decide (d < ((c).length : Int))))] (x_ek (c_nm [(1, Vp b 0), (14, Vl k c l), (15, Vi ((c).length : Int)), (16, Vi d), (17, .bool (decide (d < ((c).length : Int))))] (fun u => ?_))))
 refine c_seq (c_if (decide (d < ((c).length : Int))) R a (fun a => ?_) (fun a => ?_))
 · refine c_skip (k_then (c_seq (c_block (c_sp (x_u 1 [(18, Vi d)] ?_)))))
   obtain ⟨e, au, a⟩ := bind_some a
   obtain ⟨ae, aB, ap, an, Y⟩ := reads_index (Mo := []) tsl36 h au
   obtain ⟨_, _, rfl, rfl, ⟨_, _, rfl, rfl, ⟨_, _, rfl, rfl, rfl⟩⟩⟩ := Y
   refine x_indexAddr (xv := Vl k c l) (yv := Vi d) (.pointer (some ae)) R R R R ap (x_load (xv := .pointer (some ae)) (.agg #[Vi e.1, Vi e.2.1, Vi e.2.2.1, Vi e.2.2.2]) R R R (reads_agg tagg76 an (fun _ a => by cases a)) ?_)
   refine x_alloc (z := .agg #[Vi 0, Vi 0, Vi 0, Vi 0]) R R (by kernel_rfl) (fun g ax ab m N aD => ?_)
   replace m : ax.heap[g]? = some (.cells #[Vi 0, Vi 0, Vi 0, Vi 0] 76 (0, 0)) := m
   refine inl1 ?_
   have o := Stp.box (ls := [[b], n]) N ab
   replace i := N.box i nn
   replace h := h.step o
   replace j := j.box N ab m
   replace r := r.box f.size ab
   replace f := f.ext N
   refine x_u 1 [(3, Vi d)] ?_
   obtain ⟨ag, aq, am, O⟩ := store_boxagg 0 [Vi e.1, Vi e.2.1, Vi e.2.2.1, Vi e.2.2.2] #[Vi e.1, Vi e.2.1, Vi e.2.2.1, Vi e.2.2.2] tagg76 m R R R
   refine x_store ag (xv := Vp g 0) (yv := .agg #[Vi e.1, Vi e.2.1, Vi e.2.2.1, Vi e.2.2.2]) R R R R aq (inl1 ?_)
   have o := Stp.ev' (ls := [[g], [b], n]) O (mem_flat 0 R)
   replace i := O.box i (j.apart 1 0 R R R _ mem1)
   replace h := h.step o
   replace j := j.ev O
   replace f := f.then O (fun aj al => .inr (r.at 0 R aj al))
   replace m := am
   refine x_ek (c_seq (c_sp (x_fieldAddr (xv := Vp g 0) (Vp g 0) R R R (reads_field tfld76_0 _ _) (x_load (xv := Vp g 0) (Vi e.1) R R R (reads_box tcell3 m nn 0 _ R) ?_))))
   obtain ⟨ad, q, a⟩ := bind_some a
   have p := job_in_w e.1 0 15 _ ag q
   refine x_call 56 #[] #[] [Vi e.1, Vi 0, Vi 15] _ R R R R p ?_
   rintro B ay ⟨rfl, D⟩
   clear p q
   refine inl1 ?_
   have o := Stp.ext (ls := [[g], [b], n]) D
   replace i := D.box i nn
   replace h := h.step o
   replace m := D.box m nn
   replace j := j.ev D
   replace f := f.ext D
   refine x_u 2 [(24, .bool (!ad)), (25, .bool (!ad))] (x_if 25 (!ad) R a (fun a => ?_) (fun a => ?_))
   · refine x_u 17 [(26, undef), (27, undef), (28, undef), (29, undef), (30, .bool true), (31, .bool true), (32, undef), (33, undef), (34, undef), (35, undef), (36, .bool true), (37, .bool true), (38, undef), (39, undef), (40, undef), (41, undef), (42, .bool true)] (x_ek (c_nm [(1, Vp b 0), (3, Vi d), (4, Vp g 0), (14, Vl k c l), (15, Vi ((c).length : Int)), (16, Vi d), (42, .bool true)] (fun u => ?_)))
     refine c_true R (c_sp (x_u 1 [(2, Vi 2)] (x_ek (c_ret (k_then_ret (k_block_ret (k_then_ret ?_)))))))
     obtain rfl := some_inj a
     have t := some_inj s
     subst t
     replace a := y
     refine k_then_ret (k_block_ret (k_then_ret (r_ret (r_vals [Vi 2] ⟨R, trivial⟩ ?_))))
     obtain rfl := some_inj a
     exact ⟨R, f⟩
   refine x_fieldAddr (xv := Vp g 0) (Vp g 1) R R R (reads_field tfld76_1 _ _) (x_load (xv := Vp g 1) (Vi e.2.1) R R R (reads_box tcell3 m nn 1 _ R) ?_)
   obtain ⟨S, q, a⟩ := bind_some a
   have p := job_in_w e.2.1 0 31 _ ay q
   refine x_call 56 #[] #[] [Vi e.2.1, Vi 0, Vi 31] _ R R R R p ?_
   rintro B az ⟨rfl, E⟩
   clear p q
   refine inl1 ?_
   have o := Stp.ext (ls := [[g], [b], n]) E
   replace i := E.box i nn
   replace h := h.step o
   replace m := E.box m nn
   replace j := j.ev E
   replace f := f.ext E
   refine x_u 3 [(29, .bool (!S)), (30, .bool (!S)), (31, .bool (!S))] (x_if 31 (!S) R a (fun a => ?_) (fun a => ?_))
   · refine x_u 11 [(32, undef), (33, undef), (34, undef), (35, undef), (36, .bool true), (37, .bool true), (38, undef), (39, undef), (40, undef), (41, undef), (42, .bool true)] (x_ek (c_nm [(1, Vp b 0), (3, Vi d), (4, Vp g 0), (14, Vl k c l), (15, Vi ((c).length : Int)), (16, Vi d), (42, .bool true)] (fun u => ?_)))
     refine c_true R (c_sp (x_u 1 [(2, Vi 2)] (x_ek (c_ret (k_then_ret (k_block_ret (k_then_ret ?_)))))))
     obtain rfl := some_inj a
     have t := some_inj s
     subst t
     replace a := y
     refine k_then_ret (k_block_ret (k_then_ret (r_ret (r_vals [Vi 2] ⟨R, trivial⟩ ?_))))
     obtain rfl := some_inj a
     exact ⟨R, f⟩
   refine x_fieldAddr (xv := Vp g 0) (Vp g 2) R R R (reads_field tfld76_2 _ _) (x_load (xv := Vp g 2) (Vi e.2.2.1) R R R (reads_box tcell3 m nn 2 _ R) ?_)
   obtain ⟨U, q, a⟩ := bind_some a
   have p := job_in_w e.2.2.1 0 12 _ az q
   refine x_call 56 #[] #[] [Vi e.2.2.1, Vi 0, Vi 12] _ R R R R p ?_
   rintro B aA ⟨rfl, F⟩
   clear p q
   refine inl1 ?_
   have o := Stp.ext (ls := [[g], [b], n]) F
   replace i := F.box i nn
   replace h := h.step o
   replace m := F.box m nn
   replace j := j.ev F
   replace f := f.ext F
   refine x_u 3 [(35, .bool (!U)), (36, .bool (!U)), (37, .bool (!U))] (x_if 37 (!U) R a (fun a => ?_) (fun a => ?_))
   · refine x_u 5 [(38, undef), (39, undef), (40, undef), (41, undef), (42, .bool true)] (x_ek (c_nm [(1, Vp b 0), (3, Vi d), (4, Vp g 0), (14, Vl k c l), (15, Vi ((c).length : Int)), (16, Vi d), (42, .bool true)] (fun u => ?_)))
     refine c_true R (c_sp (x_u 1 [(2, Vi 2)] (x_ek (c_ret (k_then_ret (k_block_ret (k_then_ret ?_)))))))
     obtain rfl := some_inj a
     have t := some_inj s
     subst t
     replace a := y
     refine k_then_ret (k_block_ret (k_then_ret (r_ret (r_vals [Vi 2] ⟨R, trivial⟩ ?_))))
     obtain rfl := some_inj a
     exact ⟨R, f⟩
   refine x_fieldAddr (xv := Vp g 0) (Vp g 3) R R R (reads_field tfld76_3 _ _) (x_load (xv := Vp g 3) (Vi e.2.2.2) R R R (reads_box tcell3 m nn 3 _ R) ?_)
   obtain ⟨X, q, a⟩ := bind_some a
   have p := job_in_w e.2.2.2 1 400 _ aA q
   refine x_call 56 #[] #[] [Vi e.2.2.2, Vi 1, Vi 400] _ R R R R p ?_
   rintro B x ⟨rfl, G⟩
   clear p q
   refine inl1 ?_
   have o := Stp.ext (ls := [[g], [b], n]) G
   replace i := G.box i nn
   replace h := h.step o
   replace m := G.box m nn
   replace j := j.ev G
   replace f := f.ext G
   refine x_u 2 [(41, .bool (!X)), (42, .bool (!X))] (x_ek (c_nm [(1, Vp b 0), (3, Vi d), (4, Vp g 0), (14, Vl k c l), (15, Vi ((c).length : Int)), (16, Vi d), (42, .bool (!X))] (fun u => ?_)))
   refine c_if (!X) R a (fun a => ?_) (fun a => ?_)
   · refine c_sp (x_u 1 [(2, Vi 2)] (x_ek (c_ret (k_then_ret (k_block_ret (k_then_ret ?_))))))
     obtain rfl := some_inj a
     have t := some_inj s
     subst t
     replace a := y
     refine k_then_ret (k_block_ret (k_then_ret (r_ret (r_vals [Vi 2] ⟨R, trivial⟩ ?_))))
     obtain rfl := some_inj a
     exact ⟨R, f⟩
   refine c_skip (k_then (c_seq (c_drawn [] [(0, false), (1, false), (2, false), (3, false), (4, false), (5, false), (6, false), (7, false), (8, false), (9, false), (10, false), (11, false), (12, false), (13, false)] _ (by kernel_rfl) R ?_)))
   have o := Stp.ext (ls := [[g], [b], n]) (Ev.drew x)
   replace i := (Ev.drew x).box i nn
   replace h := h.step o
   replace m := (Ev.drew x).box m nn
   replace j := j.ev (Ev.drew x)
   replace f := f.ext (Ev.drew x)
   refine x_u 3 [(43, Vi d), (44, .bool (decide (d > 0))), (45, .bool (decide (d > 0)))] (x_if 45 (decide (d > 0)) R a (fun a => ?_) (fun a => ?_))
   · refine x_fieldAddr (xv := Vp g 0) (Vp g 2) R R R (reads_field tfld76_2 _ _) (x_load (xv := Vp g 2) (Vi e.2.2.1) R R R (reads_box tcell3 m nn 2 _ R) (x_fieldAddr (xv := Vp b 0) (Vp b 0) R R R (reads_field tfld50_0 _ _) (x_load (xv := Vp b 0) (Vl k c l) R R R (reads_box tcell36 i nn 0 _ R) (x_u 2 [(50, Vi d), (51, Vi (i64.wrap (d - 1)))] ?_))))
     obtain ⟨K, av, a⟩ := bind_some a
     obtain ⟨L, aC, ar, ao, Y⟩ := reads_index (Mo := []) tsl36 h av
     obtain ⟨_, _, rfl, rfl, ⟨_, _, rfl, rfl, ⟨_, _, rfl, rfl, rfl⟩⟩⟩ := Y
     refine x_indexAddr (xv := Vl k c l) (yv := Vi (i64.wrap (d - 1))) (.pointer (some L)) R R R R ar (x_fieldAddr (xv := .pointer (some L)) (.pointer (some (Addr.add L 2))) R R R (reads_field tfld76_2 _ _) (x_load (xv := .pointer (some (Addr.add L 2))) (Vi K.2.2.1) R R R (reads_cell tcell3 ao (fun _ a => by cases a) 2 _ R) ?_))
     refine x_u 2 [(55, .bool (decide (e.2.2.1 < K.2.2.1))), (56, .bool (decide (e.2.2.1 < K.2.2.1)))] (x_ek (c_nm [(1, Vp b 0), (14, Vl k c l), (15, Vi ((c).length : Int)), (16, Vi d), (56, .bool (decide (e.2.2.1 < K.2.2.1)))] (fun u => ?_)))
     refine c_if (decide (e.2.2.1 < K.2.2.1)) R a (fun a => ?_) (fun a => ?_)
     · refine c_sp (x_u 1 [(2, Vi 12)] (x_ek (c_ret (k_block_ret (k_then_ret ?_)))))
       obtain rfl := some_inj a
       have t := some_inj s
       subst t
       replace a := y
       refine k_then_ret (k_block_ret (k_then_ret (r_ret (r_vals [Vi 12] ⟨R, trivial⟩ ?_))))
       obtain rfl := some_inj a
       exact ⟨R, f⟩
     refine c_skip (k_block (k_then (c_plain (x_u 2 [(57, Vi (i64.wrap (d + 1))), (16, Vi (i64.wrap (d + 1)))] (x_end R ?_)))))
     obtain rfl := some_inj a
     have H : MS (x).drew [[b], n] := j.pick [some 1, some 2] _ R
     have I := pick_sub (ls := [[g], [b], n]) [some 1, some 2] [[b], n] R
     replace h := h.sub I
     replace j := H
     replace r := r.pick [some 1] [[b]] R
     clear H I
     exact k_then ⟨(A, i64.wrap (d + 1)), ⟨R, R, R, R, trivial⟩, ⟨s, f, j, r, h, i⟩, Nat.lt_succ_self _⟩
   refine x_u 11 [(46, undef), (47, undef), (48, undef), (49, undef), (50, undef), (51, undef), (52, undef), (53, undef), (54, undef), (55, undef), (56, .bool false)] (x_ek (c_nm [(1, Vp b 0), (14, Vl k c l), (15, Vi ((c).length : Int)), (16, Vi d), (56, .bool false)] (fun u => ?_)))
   refine c_false R (c_skip (k_block (k_then (c_plain (x_u 2 [(57, Vi (i64.wrap (d + 1))), (16, Vi (i64.wrap (d + 1)))] (x_end R ?_))))))
   obtain rfl := some_inj a
   have H : MS (x).drew [[b], n] := j.pick [some 1, some 2] _ R
   have I := pick_sub (ls := [[g], [b], n]) [some 1, some 2] [[b], n] R
   replace h := h.sub I
   replace j := H
   replace r := r.pick [some 1] [[b]] R
   clear H I
   exact k_then ⟨(A, i64.wrap (d + 1)), ⟨R, R, R, R, trivial⟩, ⟨s, f, j, r, h, i⟩, Nat.lt_succ_self _⟩
 refine c_exit (k_then_exit ?_)
 obtain rfl := some_inj a
 have t := some_inj s
 subst t
 replace a := y
 refine k_then_exit (k_block_in (k_then (c_norm [] trivial (fun u => ?_))))
 refine c_sp (x_u 1 [(2, Vi 0)] (x_ek (c_ret (r_ret (r_vals [Vi 0] ⟨R, trivial⟩ ?_)))))
 obtain rfl := some_inj a
 exact ⟨R, f⟩
end Go.Proofs.YtlejnkhaphlooaaGreat
