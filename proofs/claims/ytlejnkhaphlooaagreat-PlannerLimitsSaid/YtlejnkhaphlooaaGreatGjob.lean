
/- Walks, printed by program: each function returns what the partial function of the same name returns. Conditions: those of each theorem. -/
import Derived.Test.YtlejnkhaphlooaaGreatGT
set_option linter.unusedVariables false
set_option linter.unusedSimpArgs false
set_option maxRecDepth 4000
namespace Go.Proofs.YtlejnkhaphlooaaGreat
open Go Go.V Go.Proofs Go.IntKind
def job_in (a : Int) (b : Int) (c : Int) : Option Bool :=
(if (decide (a ≥ b)) = true then
some (decide (a ≤ c))
else
some false)
theorem job_in_w (a : Int) (c : Int) (b : Int) (h : Bool) (e : World) (d : job_in a c b = some h) : CallVC Tryz.prog 56 [Vi a, Vi c, Vi b] e fun j k => j = .bool h ∧ Ev [] e k := by
 refine calls_vc hmx Tryz.func56 (by kernel_rfl) R (rs := [.tmp 6]) R (by kernel_rfl) (args := [Vi a, Vi c, Vi b]) R ?_
 have f : Ev [] e e := Ev.refl _ _
 have m : MS e [[]] := ⟨List.pairwise_singleton _ _, fun n g l i => by simp only [List.mem_singleton] at g; subst g; cases i⟩
 refine c_sp (x_u 1 [(6, .bool false)] (x_ek (c_sp (x_u 4 [(7, Vi a), (8, Vi c), (9, .bool (decide (a ≥ c))), (10, .bool (decide (a ≥ c)))] (x_if 10 (decide (a ≥ c)) R d (fun d => ?_) (fun d => ?_))))))
 · refine x_u 5 [(11, Vi a), (12, Vi b), (13, .bool (decide (a ≤ b))), (14, .bool (decide (a ≤ b))), (6, .bool (decide (a ≤ b)))] (x_ek (c_ret (r_ret (r_vals [.bool (decide (a ≤ b))] ⟨R, trivial⟩ ?_))))
   obtain rfl := some_inj d
   exact ⟨R, f⟩
 refine x_u 5 [(11, undef), (12, undef), (13, undef), (14, .bool false), (6, .bool false)] (x_ek (c_ret (r_ret (r_vals [.bool false] ⟨R, trivial⟩ ?_))))
 obtain rfl := some_inj d
 exact ⟨R, f⟩
def job_Valid_L8 (c : List (Int × Int × Int × Int)) (d : Int) : Option (Step Int (Int ⊕ Unit)) :=
match d with
| a =>
(if (decide (a < ((c).length : Int))) = true then
((idx c a).bind fun b =>
((job_in b.1 0 15).bind fun e =>
(if (!e) = true then
some (.done (.inl 2))
else
((job_in b.2.1 0 31).bind fun f =>
(if (!f) = true then
some (.done (.inl 2))
else
((job_in b.2.2.1 0 12).bind fun g =>
(if (!g) = true then
some (.done (.inl 2))
else
((job_in b.2.2.2 1 400).bind fun h =>
(if (!h) = true then
some (.done (.inl 2))
else
(if (decide (a > 0)) = true then
((idx c (i64.wrap (a - 1))).bind fun i =>
(if (decide (b.2.2.1 < i.2.2.1)) = true then
some (.done (.inl 12))
else
some (.next (i64.wrap (a + 1)))))
else
some (.next (i64.wrap (a + 1)))))))))))))
else
some (.done (.inr ())))
def job_Valid (a : List (Int × Int × Int × Int)) (c : Int) : Option Int :=
(if (decide (((a).length : Int) > 96)) = true then
some 3
else
((job_in c 0 12).bind fun e =>
(if (!e) = true then
some 2
else
((loop (job_Valid_L8 a) 0).bind fun b => match b with
| (.inl d) => some d
| (.inr _) => some 0))))
theorem job_Valid_w (k : Option Addr) (l : Nat) (c : List (Int × Int × Int × Int)) (v : Int) (af : Int) (w : World) (n : List Nat) (j : MS w [n]) (h : SlR (eIt4) w (fl [n]) k l c) (a : job_Valid c v = some af) : CallVC Tryz.prog 46 [.agg #[Vl k c l, Vi v]] w fun B C => B = Vi af ∧ Ev [] w C := by
 refine calls_vc hmx Tryz.func46 (by kernel_rfl) R (rs := [.tmp 2]) R (by kernel_rfl) (args := [.agg #[Vl k c l, Vi v]]) R ?_
 have f : Ev [] w w := Ev.refl _ _
 have r : FR w.heap.size [] := FR.nil _
 refine c_sp (x_box (xv := .agg #[Vl k c l, Vi v]) R R R (fun b ah ac i aa aE => ?_))
 replace i : ah.heap[b]? = some (.cells #[Vl k c l, Vi v] 50 (0, 0)) := i
 refine inl1 ?_
 have o := Stp.box (ls := [n]) aa ac
 replace h := h.step o
 replace j := j.box aa ac i
 replace r := r.box f.size ac
 replace f := f.ext aa
 refine x_u 1 [(2, Vi 0)] (x_ek (c_seq (c_sp (x_fieldAddr (xv := Vp b 0) (Vp b 0) R R R (reads_field tfld50_0 _ _) (x_load (xv := Vp b 0) (Vl k c l) R R R (reads_box tcell36 i nn 0 _ R) (x_len (vs := [Vl k c l]) (Vi ((c).length : Int)) R R R (reads_len tsl36 _ _ _ _ _) (x_u 1 [(8, .bool (decide (((c).length : Int) > 96)))] (x_ek (c_if (decide (((c).length : Int) > 96)) R a (fun a => ?_) (fun a => ?_))))))))))
 · refine c_sp (x_u 1 [(2, Vi 3)] (x_ek (c_ret (k_then_ret (r_ret (r_vals [Vi 3] ⟨R, trivial⟩ ?_))))))
   obtain rfl := some_inj a
   exact ⟨R, f⟩
 refine c_skip (k_then (c_seq (c_sp (x_fieldAddr (xv := Vp b 0) (Vp b 1) R R R (reads_field tfld50_1 _ _) (x_load (xv := Vp b 1) (Vi v) R R R (reads_box tcell3 i nn 1 _ R) ?_)))))
 obtain ⟨ai, q, a⟩ := bind_some a
 have p := job_in_w v 0 12 _ ah q
 refine x_call 56 #[] #[] [Vi v, Vi 0, Vi 12] _ R R R R p ?_
 rintro B aG ⟨rfl, Q⟩
 clear p q
 refine inl1 ?_
 have o := Stp.ext (ls := [[b], n]) Q
 replace h := h.step o
 replace i := Q.box i nn
 replace j := j.ev Q
 replace f := f.ext Q
 refine x_u 1 [(12, .bool (!ai))] (x_ek (c_if (!ai) R a (fun a => ?_) (fun a => ?_)))
 · refine c_sp (x_u 1 [(2, Vi 2)] (x_ek (c_ret (k_then_ret (r_ret (r_vals [Vi 2] ⟨R, trivial⟩ ?_))))))
   obtain rfl := some_inj a
   exact ⟨R, f⟩
 refine c_skip (k_then (c_seq (c_sp (x_fieldAddr (xv := Vp b 0) (Vp b 0) R R R (reads_field tfld50_0 _ _) (x_load (xv := Vp b 0) (Vl k c l) R R R (reads_box tcell36 i nn 0 _ R) (x_len (vs := [Vl k c l]) (Vi ((c).length : Int)) R R R (reads_len tsl36 _ _ _ _ _) (x_u 1 [(16, Vi 0)] (x_ek (c_nm [(1, Vp b 0), (14, Vl k c l), (15, Vi ((c).length : Int)), (16, Vi 0)] (fun u => ?_))))))))))
 refine c_block ?_
 obtain ⟨ak, Z, y⟩ := bind_some a
 obtain ⟨A, Z⟩ := loop_some Z
 refine c_loop (loop_rule hmx (σ := Nat × Int) (fun J => match J with | (_, d) => [(1, Vp b 0), (14, Vl k c l), (15, Vi ((c).length : Int)), (16, Vi d)]) (fun J C => match J with | (aw, d) => loopN (job_Valid_L8 c) aw d = some ak ∧ Ev [] w C ∧ MS C [[b], n] ∧ FR w.heap.size [[b]] ∧ SlR (eIt4) C (fl [[b], n]) k l c ∧ C.heap[b]? = some (.cells #[Vl k c l, Vi v] 50 (0, 0))) (fun J => J.1) (A, 0) ⟨R, R, R, R, trivial⟩ ⟨Z, f, j, r, h, i⟩ ?_)
 rintro ⟨A, d⟩ u aH ⟨s, f, j, r, h, i⟩
 rcases A with _ | A
 · exact (loopN_zero s).elim
 obtain ⟨aF, a, s⟩ := bind_some s
 refine c_sp (x_u 1 [(17, .bool (decide (d < ((c).length : Int))))] (x_ek (c_nm [(1, Vp b 0), (14, Vl k c l), (15, Vi ((c).length : Int)), (16, Vi d), (17, .bool (decide (d < ((c).length : Int))))] (fun u => ?_))))
 refine c_seq (c_if (decide (d < ((c).length : Int))) R a (fun a => ?_) (fun a => ?_))
 · refine c_skip (k_then (c_seq (c_block (c_sp (x_u 1 [(18, Vi d)] ?_)))))
   obtain ⟨e, au, a⟩ := bind_some a
   obtain ⟨ae, aB, ap, an, Y⟩ := reads_index (Mo := []) tsl36 h au
   obtain ⟨_, _, rfl, rfl, ⟨_, _, rfl, rfl, ⟨_, _, rfl, rfl, rfl⟩⟩⟩ := Y
   refine x_indexAddr (xv := Vl k c l) (yv := Vi d) (.pointer (some ae)) R R R R ap (x_load (xv := .pointer (some ae)) (.agg #[Vi e.1, Vi e.2.1, Vi e.2.2.1, Vi e.2.2.2]) R R R (reads_agg tagg76 an (fun _ a => by cases a)) ?_)
   refine x_alloc (z := .agg #[Vi 0, Vi 0, Vi 0, Vi 0]) R R (by kernel_rfl) (fun g ax ab m N aD => ?_)
   replace m : ax.heap[g]? = some (.cells #[Vi 0, Vi 0, Vi 0, Vi 0] 76 (0, 0)) := m
   refine inl1 ?_
   have o := Stp.box (ls := [[b], n]) N ab
   replace i := N.box i nn
   replace h := h.step o
   replace j := j.box N ab m
   replace r := r.box f.size ab
   replace f := f.ext N
   refine x_u 1 [(3, Vi d)] ?_
   obtain ⟨ag, aq, am, O⟩ := store_boxagg 0 [Vi e.1, Vi e.2.1, Vi e.2.2.1, Vi e.2.2.2] #[Vi e.1, Vi e.2.1, Vi e.2.2.1, Vi e.2.2.2] tagg76 m R R R
   refine x_store ag (xv := Vp g 0) (yv := .agg #[Vi e.1, Vi e.2.1, Vi e.2.2.1, Vi e.2.2.2]) R R R R aq (inl1 ?_)
   have o := Stp.ev' (ls := [[g], [b], n]) O (mem_flat 0 R)
   replace i := O.box i (j.apart 1 0 R R R _ mem1)
   replace h := h.step o
   replace j := j.ev O
   replace f := f.then O (fun aj al => .inr (r.at 0 R aj al))
   replace m := am
   refine x_ek (c_seq (c_sp (x_fieldAddr (xv := Vp g 0) (Vp g 0) R R R (reads_field tfld76_0 _ _) (x_load (xv := Vp g 0) (Vi e.1) R R R (reads_box tcell3 m nn 0 _ R) ?_))))
   obtain ⟨ad, q, a⟩ := bind_some a
   have p := job_in_w e.1 0 15 _ ag q
   refine x_call 56 #[] #[] [Vi e.1, Vi 0, Vi 15] _ R R R R p ?_
   rintro B ay ⟨rfl, D⟩
   clear p q
   refine inl1 ?_
   have o := Stp.ext (ls := [[g], [b], n]) D
   replace i := D.box i nn
   replace h := h.step o
   replace m := D.box m nn
   replace j := j.ev D
   replace f := f.ext D
   refine x_u 2 [(24, .bool (!ad)), (25, .bool (!ad))] (x_if 25 (!ad) R a (fun a => ?_) (fun a => ?_))
   · refine x_u 17 [(26, undef), (27, undef), (28, undef), (29, undef), (30, .bool true), (31, .bool true), (32, undef), (33, undef), (34, undef), (35, undef), (36, .bool true), (37, .bool true), (38, undef), (39, undef), (40, undef), (41, undef), (42, .bool true)] (x_ek (c_nm [(1, Vp b 0), (3, Vi d), (4, Vp g 0), (14, Vl k c l), (15, Vi ((c).length : Int)), (16, Vi d), (42, .bool true)] (fun u => ?_)))
     refine c_true R (c_sp (x_u 1 [(2, Vi 2)] (x_ek (c_ret (k_then_ret (k_block_ret (k_then_ret ?_)))))))
     obtain rfl := some_inj a
     have t := some_inj s
     subst t
     replace a := y
     refine k_then_ret (k_block_ret (k_then_ret (r_ret (r_vals [Vi 2] ⟨R, trivial⟩ ?_))))
     obtain rfl := some_inj a
     exact ⟨R, f⟩
   refine x_fieldAddr (xv := Vp g 0) (Vp g 1) R R R (reads_field tfld76_1 _ _) (x_load (xv := Vp g 1) (Vi e.2.1) R R R (reads_box tcell3 m nn 1 _ R) ?_)
   obtain ⟨S, q, a⟩ := bind_some a
   have p := job_in_w e.2.1 0 31 _ ay q
   refine x_call 56 #[] #[] [Vi e.2.1, Vi 0, Vi 31] _ R R R R p ?_
   rintro B az ⟨rfl, E⟩
   clear p q
   refine inl1 ?_
   have o := Stp.ext (ls := [[g], [b], n]) E
   replace i := E.box i nn
   replace h := h.step o
   replace m := E.box m nn
   replace j := j.ev E
   replace f := f.ext E
   refine x_u 3 [(29, .bool (!S)), (30, .bool (!S)), (31, .bool (!S))] (x_if 31 (!S) R a (fun a => ?_) (fun a => ?_))
   · refine x_u 11 [(32, undef), (33, undef), (34, undef), (35, undef), (36, .bool true), (37, .bool true), (38, undef), (39, undef), (40, undef), (41, undef), (42, .bool true)] (x_ek (c_nm [(1, Vp b 0), (3, Vi d), (4, Vp g 0), (14, Vl k c l), (15, Vi ((c).length : Int)), (16, Vi d), (42, .bool true)] (fun u => ?_)))
     refine c_true R (c_sp (x_u 1 [(2, Vi 2)] (x_ek (c_ret (k_then_ret (k_block_ret (k_then_ret ?_)))))))
     obtain rfl := some_inj a
     have t := some_inj s
     subst t
     replace a := y
     refine k_then_ret (k_block_ret (k_then_ret (r_ret (r_vals [Vi 2] ⟨R, trivial⟩ ?_))))
     obtain rfl := some_inj a
     exact ⟨R, f⟩
   refine x_fieldAddr (xv := Vp g 0) (Vp g 2) R R R (reads_field tfld76_2 _ _) (x_load (xv := Vp g 2) (Vi e.2.2.1) R R R (reads_box tcell3 m nn 2 _ R) ?_)
   obtain ⟨U, q, a⟩ := bind_some a
   have p := job_in_w e.2.2.1 0 12 _ az q
   refine x_call 56 #[] #[] [Vi e.2.2.1, Vi 0, Vi 12] _ R R R R p ?_
   rintro B aA ⟨rfl, F⟩
   clear p q
   refine inl1 ?_
   have o := Stp.ext (ls := [[g], [b], n]) F
   replace i := F.box i nn
   replace h := h.step o
   replace m := F.box m nn
   replace j := j.ev F
   replace f := f.ext F
   refine x_u 3 [(35, .bool (!U)), (36, .bool (!U)), (37, .bool (!U))] (x_if 37 (!U) R a (fun a => ?_) (fun a => ?_))
   · refine x_u 5 [(38, undef), (39, undef), (40, undef), (41, undef), (42, .bool true)] (x_ek (c_nm [(1, Vp b 0), (3, Vi d), (4, Vp g 0), (14, Vl k c l), (15, Vi ((c).length : Int)), (16, Vi d), (42, .bool true)] (fun u => ?_)))
     refine c_true R (c_sp (x_u 1 [(2, Vi 2)] (x_ek (c_ret (k_then_ret (k_block_ret (k_then_ret ?_)))))))
     obtain rfl := some_inj a
     have t := some_inj s
     subst t
     replace a := y
     refine k_then_ret (k_block_ret (k_then_ret (r_ret (r_vals [Vi 2] ⟨R, trivial⟩ ?_))))
     obtain rfl := some_inj a
     exact ⟨R, f⟩
   refine x_fieldAddr (xv := Vp g 0) (Vp g 3) R R R (reads_field tfld76_3 _ _) (x_load (xv := Vp g 3) (Vi e.2.2.2) R R R (reads_box tcell3 m nn 3 _ R) ?_)
   obtain ⟨X, q, a⟩ := bind_some a
   have p := job_in_w e.2.2.2 1 400 _ aA q
   refine x_call 56 #[] #[] [Vi e.2.2.2, Vi 1, Vi 400] _ R R R R p ?_
   rintro B x ⟨rfl, G⟩
   clear p q
   refine inl1 ?_
   have o := Stp.ext (ls := [[g], [b], n]) G
   replace i := G.box i nn
   replace h := h.step o
   replace m := G.box m nn
   replace j := j.ev G
   replace f := f.ext G
   refine x_u 2 [(41, .bool (!X)), (42, .bool (!X))] (x_ek (c_nm [(1, Vp b 0), (3, Vi d), (4, Vp g 0), (14, Vl k c l), (15, Vi ((c).length : Int)), (16, Vi d), (42, .bool (!X))] (fun u => ?_)))
   refine c_if (!X) R a (fun a => ?_) (fun a => ?_)
   · refine c_sp (x_u 1 [(2, Vi 2)] (x_ek (c_ret (k_then_ret (k_block_ret (k_then_ret ?_))))))
     obtain rfl := some_inj a
     have t := some_inj s
     subst t
     replace a := y
     refine k_then_ret (k_block_ret (k_then_ret (r_ret (r_vals [Vi 2] ⟨R, trivial⟩ ?_))))
     obtain rfl := some_inj a
     exact ⟨R, f⟩
   refine c_skip (k_then (c_seq (c_drawn [] [(0, false), (1, false), (2, false), (3, false), (4, false), (5, false), (6, false), (7, false), (8, false), (9, false), (10, false), (11, false), (12, false), (13, false)] _ (by kernel_rfl) R ?_)))
   have o := Stp.ext (ls := [[g], [b], n]) (Ev.drew x)
   replace i := (Ev.drew x).box i nn
   replace h := h.step o
   replace m := (Ev.drew x).box m nn
   replace j := j.ev (Ev.drew x)
   replace f := f.ext (Ev.drew x)
   refine x_u 3 [(43, Vi d), (44, .bool (decide (d > 0))), (45, .bool (decide (d > 0)))] (x_if 45 (decide (d > 0)) R a (fun a => ?_) (fun a => ?_))
   · refine x_fieldAddr (xv := Vp g 0) (Vp g 2) R R R (reads_field tfld76_2 _ _) (x_load (xv := Vp g 2) (Vi e.2.2.1) R R R (reads_box tcell3 m nn 2 _ R) (x_fieldAddr (xv := Vp b 0) (Vp b 0) R R R (reads_field tfld50_0 _ _) (x_load (xv := Vp b 0) (Vl k c l) R R R (reads_box tcell36 i nn 0 _ R) (x_u 2 [(50, Vi d), (51, Vi (i64.wrap (d - 1)))] ?_))))
     obtain ⟨K, av, a⟩ := bind_some a
     obtain ⟨L, aC, ar, ao, Y⟩ := reads_index (Mo := []) tsl36 h av
     obtain ⟨_, _, rfl, rfl, ⟨_, _, rfl, rfl, ⟨_, _, rfl, rfl, rfl⟩⟩⟩ := Y
     refine x_indexAddr (xv := Vl k c l) (yv := Vi (i64.wrap (d - 1))) (.pointer (some L)) R R R R ar (x_fieldAddr (xv := .pointer (some L)) (.pointer (some (Addr.add L 2))) R R R (reads_field tfld76_2 _ _) (x_load (xv := .pointer (some (Addr.add L 2))) (Vi K.2.2.1) R R R (reads_cell tcell3 ao (fun _ a => by cases a) 2 _ R) ?_))
     refine x_u 2 [(55, .bool (decide (e.2.2.1 < K.2.2.1))), (56, .bool (decide (e.2.2.1 < K.2.2.1)))] (x_ek (c_nm [(1, Vp b 0), (14, Vl k c l), (15, Vi ((c).length : Int)), (16, Vi d), (56, .bool (decide (e.2.2.1 < K.2.2.1)))] (fun u => ?_)))
     refine c_if (decide (e.2.2.1 < K.2.2.1)) R a (fun a => ?_) (fun a => ?_)
     · refine c_sp (x_u 1 [(2, Vi 12)] (x_ek (c_ret (k_block_ret (k_then_ret ?_)))))
       obtain rfl := some_inj a
       have t := some_inj s
       subst t
       replace a := y
       refine k_then_ret (k_block_ret (k_then_ret (r_ret (r_vals [Vi 12] ⟨R, trivial⟩ ?_))))
       obtain rfl := some_inj a
       exact ⟨R, f⟩
     refine c_skip (k_block (k_then (c_plain (x_u 2 [(57, Vi (i64.wrap (d + 1))), (16, Vi (i64.wrap (d + 1)))] (x_end R ?_)))))
     obtain rfl := some_inj a
     have H : MS (x).drew [[b], n] := j.pick [some 1, some 2] _ R
     have I := pick_sub (ls := [[g], [b], n]) [some 1, some 2] [[b], n] R
     replace h := h.sub I
     replace j := H
     replace r := r.pick [some 1] [[b]] R
     clear H I
     exact k_then ⟨(A, i64.wrap (d + 1)), ⟨R, R, R, R, trivial⟩, ⟨s, f, j, r, h, i⟩, Nat.lt_succ_self _⟩
   refine x_u 11 [(46, undef), (47, undef), (48, undef), (49, undef), (50, undef), (51, undef), (52, undef), (53, undef), (54, undef), (55, undef), (56, .bool false)] (x_ek (c_nm [(1, Vp b 0), (14, Vl k c l), (15, Vi ((c).length : Int)), (16, Vi d), (56, .bool false)] (fun u => ?_)))
   refine c_false R (c_skip (k_block (k_then (c_plain (x_u 2 [(57, Vi (i64.wrap (d + 1))), (16, Vi (i64.wrap (d + 1)))] (x_end R ?_))))))
   obtain rfl := some_inj a
   have H : MS (x).drew [[b], n] := j.pick [some 1, some 2] _ R
   have I := pick_sub (ls := [[g], [b], n]) [some 1, some 2] [[b], n] R
   replace h := h.sub I
   replace j := H
   replace r := r.pick [some 1] [[b]] R
   clear H I
   exact k_then ⟨(A, i64.wrap (d + 1)), ⟨R, R, R, R, trivial⟩, ⟨s, f, j, r, h, i⟩, Nat.lt_succ_self _⟩
 refine c_exit (k_then_exit ?_)
 obtain rfl := some_inj a
 have t := some_inj s
 subst t
 replace a := y
 refine k_then_exit (k_block_in (k_then (c_norm [] trivial (fun u => ?_))))
 refine c_sp (x_u 1 [(2, Vi 0)] (x_ek (c_ret (r_ret (r_vals [Vi 0] ⟨R, trivial⟩ ?_)))))
 obtain rfl := some_inj a
 exact ⟨R, f⟩
def job_relation_J9 (a : Int) (b : Int) (c : Bool) : Option Int :=
(if c = true then
some 0
else
(if (decide (b < a)) = true then
some 2
else
some 1))
def job_relation_J4 (a : Int) (b : Int) (c : Int) (d : Int) (g : Int) (h : Int) (e : Int) (f : Int) (i : Int) (j : Int) : Option Int :=
(if (c != e) = true then
job_relation_J9 a b true
else
job_relation_J9 a b (decide (d ≥ f)))
def job_relation (c : List (Int × Int × Int × Int)) (f : Int) (d : Int) (e : Int) : Option Int :=
((idx c d).bind fun a =>
((idx c e).bind fun b =>
job_relation_J4 d e a.1 a.2.1 a.2.2.1 a.2.2.2 b.1 b.2.1 b.2.2.1 b.2.2.2))
theorem job_relation_w (u : Option Addr) (w : Nat) (t : List (Int × Int × Int × Int)) (Q : Int) (j : Int) (k : Int) (ad : Int) (r : World) (s : List Nat) (a : MS r [s]) (K : SlR (eIt4) r (fl [s]) u w t) (f : job_relation t Q j k = some ad) : CallVC Tryz.prog 122 [.agg #[Vl u t w, Vi Q], Vi j, Vi k] r fun aF C => aF = Vi ad ∧ Ev [] r C := by
 refine calls_vc hmx Tryz.func122 (by kernel_rfl) R (rs := [.tmp 6]) R (by kernel_rfl) (args := [.agg #[Vl u t w, Vi Q], Vi j, Vi k]) R ?_
 have d : Ev [] r r := Ev.refl _ _
 have e : FR r.heap.size [] := FR.nil _
 refine c_sp (x_box (xv := .agg #[Vl u t w, Vi Q]) R R R (fun D h aj G ai aJ => ?_))
 replace G : h.heap[D]? = some (.cells #[Vl u t w, Vi Q] 50 (0, 0)) := G
 refine inl1 ?_
 have am := Stp.box (ls := [s]) ai aj
 replace K := K.step am
 replace a := a.box ai aj G
 replace e := e.box d.size aj
 replace d := d.ext ai
 refine x_u 1 [(6, Vi 0)] (x_ek (c_join (σ := Int × Int × Int × Int × Int × Int × Int × Int × Nat × Nat) (fun J => match J with | (E, x, Y, Z, F, y, aa, ab, n, o) => [(1, Vi j), (2, Vi k), (7, Vp n 0), (8, Vp o 0)]) (fun J C => match J with | (E, x, Y, Z, F, y, aa, ab, n, o) => job_relation_J4 j k E x Y Z F y aa ab = some ad ∧ Ev [] r C ∧ MS C [[n], [o], s] ∧ FR r.heap.size [[n], [o]] ∧ C.heap[n]? = some (.cells #[Vi E, Vi x, Vi Y, Vi Z] 76 (0, 0)) ∧ C.heap[o]? = some (.cells #[Vi F, Vi y, Vi aa, Vi ab] 76 (0, 0))) ?_ ?_))
 · refine c_drawnp (newmo (h).drew) [(0, false), (1, false), (2, false), (3, false), (4, false), (5, false), (6, false), (7, false), (8, false), (9, false)] (.alt 10 false (opsThen [(11, false), (12, false), (13, true)] .stop) (.alt 11 false (opsThen [(10, false), (12, false), (13, true)] .stop) .none_)) _ (by kernel_rfl) R ?_
   have am := Stp.ext (ls := [[D], s]) (Ev.drew h)
   replace K := K.step am
   replace G := (Ev.drew h).box G nn
   replace a := a.ev (Ev.drew h)
   replace d := d.ext (Ev.drew h)
   have ac : ((h).drew).heap.size = ((h).drew).heap.size + 0 := R
   refine x_fieldAddr (xv := Vp D 0) (Vp D 0) R R R (reads_field tfld50_0 _ _) (x_load (xv := Vp D 0) (Vl u t w) R R R (reads_box tcell36 G ((newmo_out (a.ltat 0 R)) _ mem1) 0 _ R) (x_u 1 [(11, Vi j)] ?_))
   obtain ⟨b, aB, f⟩ := bind_some f
   obtain ⟨ap, aH, az, ax, af⟩ := reads_index (Mo := (newmo (h).drew)) tsl36 K aB
   obtain ⟨_, _, rfl, rfl, ⟨_, _, rfl, rfl, ⟨_, _, rfl, rfl, rfl⟩⟩⟩ := af
   refine x_indexAddr (xv := Vl u t w) (yv := Vi j) (.pointer (some ap)) R R R R az (x_load (xv := .pointer (some ap)) (.agg #[Vi b.1, Vi b.2.1, Vi b.2.2.1, Vi b.2.2.2]) R R R (reads_agg tagg76 (CellsAt.newer ax) (fun v p => p)) (x_fieldAddr (xv := Vp D 0) (Vp D 0) R R R (reads_field tfld50_0 _ _) (x_load (xv := Vp D 0) (Vl u t w) R R R (reads_box tcell36 G ((newmo_out (a.ltat 0 R)) _ mem1) 0 _ R) (x_u 1 [(16, Vi k)] ?_))))
   obtain ⟨c, aC, f⟩ := bind_some f
   obtain ⟨aq, aI, aA, ay, af⟩ := reads_index (Mo := (newmo (h).drew)) tsl36 K aC
   obtain ⟨_, _, rfl, rfl, ⟨_, _, rfl, rfl, ⟨_, _, rfl, rfl, rfl⟩⟩⟩ := af
   refine x_indexAddr (xv := Vl u t w) (yv := Vi k) (.pointer (some aq)) R R R R aA (x_load (xv := .pointer (some aq)) (.agg #[Vi c.1, Vi c.2.1, Vi c.2.2.1, Vi c.2.2.2]) R R R (reads_agg tagg76 (CellsAt.newer ay) (fun v p => p)) (x_end R (t_alt _ R ?_ ?_)))
   · refine x_alloc (z := .agg #[Vi 0, Vi 0, Vi 0, Vi 0]) R R (by kernel_rfl) (fun m X N g I aE => ?_)
     replace g : X.heap[m]? = some (.cells #[Vi 0, Vi 0, Vi 0, Vi 0] 76 (0, 0)) := g
     refine ⟨.inr (I.nil), ?_⟩
     have aw : m = ((h).drew).heap.size + 0 := by omega
     replace ac : X.heap.size = ((h).drew).heap.size + 1 := by omega
     replace a := a.box I N g
     replace e := e.box d.size N
     replace d := d.ext I
     refine x_alloc (z := .agg #[Vi 0, Vi 0, Vi 0, Vi 0]) R R (by kernel_rfl) (fun l U L i A aD => ?_)
     replace i : U.heap[l]? = some (.cells #[Vi 0, Vi 0, Vi 0, Vi 0] 76 (0, 0)) := i
     refine ⟨.inr (A.nil), ?_⟩
     have av : l = ((h).drew).heap.size + 1 := by omega
     replace ac : U.heap.size = ((h).drew).heap.size + 2 := by omega
     replace g := A.box g nn
     replace a := a.box A L i
     replace e := e.box d.size L
     replace d := d.ext A
     obtain ⟨an, ak, ag, B⟩ := store_boxagg 0 [Vi b.1, Vi b.2.1, Vi b.2.2.1, Vi b.2.2.2] #[Vi b.1, Vi b.2.1, Vi b.2.2.1, Vi b.2.2.2] tagg76 g R R R
     refine x_store an (xv := Vp m 0) (yv := .agg #[Vi b.1, Vi b.2.1, Vi b.2.2.1, Vi b.2.2.2]) R R R R ak (⟨.inr (B.sub (fun aG O => by simp only [List.mem_singleton] at O; subst O; exact newmo_mem aw R)), ?_⟩)
     replace i := B.box i (a.apart 0 1 R R R _ mem1)
     replace a := a.ev B
     replace d := d.then B (fun v p => .inr (e.at 1 R v p))
     replace g := ag
     obtain ⟨ao, al, ah, H⟩ := store_boxagg 0 [Vi c.1, Vi c.2.1, Vi c.2.2.1, Vi c.2.2.2] #[Vi c.1, Vi c.2.1, Vi c.2.2.1, Vi c.2.2.2] tagg76 i R R R
     refine x_store ao (xv := Vp l 0) (yv := .agg #[Vi c.1, Vi c.2.1, Vi c.2.2.1, Vi c.2.2.2]) R R R R al (inl1 ?_)
     replace g := H.box g (a.apart 1 0 R R R _ mem1)
     replace a := a.ev H
     replace d := d.then H (fun v p => .inr (e.at 0 R v p))
     replace i := ah
     refine x_end R (t_stop ?_)
     have q := a.pick [some 1, some 0, some 3] [[m], [l], s] R
     replace a := q
     replace e := e.pick [some 1, some 0] [[m], [l]] R
     clear q
     exact k_then ⟨(b.1, b.2.1, b.2.2.1, b.2.2.2, c.1, c.2.1, c.2.2.1, c.2.2.2, m, l), ⟨R, R, R, R, trivial⟩, f, d, a, e, g, i⟩
   refine t_alt _ R ?_ ?_
   · refine x_alloc (z := .agg #[Vi 0, Vi 0, Vi 0, Vi 0]) R R (by kernel_rfl) (fun m X N g I aE => ?_)
     replace g : X.heap[m]? = some (.cells #[Vi 0, Vi 0, Vi 0, Vi 0] 76 (0, 0)) := g
     refine ⟨.inr (I.nil), ?_⟩
     have aw : m = ((h).drew).heap.size + 0 := by omega
     replace ac : X.heap.size = ((h).drew).heap.size + 1 := by omega
     replace a := a.box I N g
     replace e := e.box d.size N
     replace d := d.ext I
     refine x_alloc (z := .agg #[Vi 0, Vi 0, Vi 0, Vi 0]) R R (by kernel_rfl) (fun l U L i A aD => ?_)
     replace i : U.heap[l]? = some (.cells #[Vi 0, Vi 0, Vi 0, Vi 0] 76 (0, 0)) := i
     refine ⟨.inr (A.nil), ?_⟩
     have av : l = ((h).drew).heap.size + 1 := by omega
     replace ac : U.heap.size = ((h).drew).heap.size + 2 := by omega
     replace g := A.box g nn
     replace a := a.box A L i
     replace e := e.box d.size L
     replace d := d.ext A
     obtain ⟨an, ak, ag, B⟩ := store_boxagg 0 [Vi b.1, Vi b.2.1, Vi b.2.2.1, Vi b.2.2.2] #[Vi b.1, Vi b.2.1, Vi b.2.2.1, Vi b.2.2.2] tagg76 i R R R
     refine x_store an (xv := Vp l 0) (yv := .agg #[Vi b.1, Vi b.2.1, Vi b.2.2.1, Vi b.2.2.2]) R R R R ak (⟨.inr (B.sub (fun aG O => by simp only [List.mem_singleton] at O; subst O; exact newmo_mem av R)), ?_⟩)
     replace g := B.box g (a.apart 1 0 R R R _ mem1)
     replace a := a.ev B
     replace d := d.then B (fun v p => .inr (e.at 0 R v p))
     replace i := ag
     obtain ⟨ao, al, ah, H⟩ := store_boxagg 0 [Vi c.1, Vi c.2.1, Vi c.2.2.1, Vi c.2.2.2] #[Vi c.1, Vi c.2.1, Vi c.2.2.1, Vi c.2.2.2] tagg76 g R R R
     refine x_store ao (xv := Vp m 0) (yv := .agg #[Vi c.1, Vi c.2.1, Vi c.2.2.1, Vi c.2.2.2]) R R R R al (inl1 ?_)
     replace i := H.box i (a.apart 0 1 R R R _ mem1)
     replace a := a.ev H
     replace d := d.then H (fun v p => .inr (e.at 1 R v p))
     replace g := ah
     refine x_end R (t_stop ?_)
     have q := a.pick [some 0, some 1, some 3] [[l], [m], s] R
     replace a := q
     replace e := e.pick [some 0, some 1] [[l], [m]] R
     clear q
     exact k_then ⟨(b.1, b.2.1, b.2.2.1, b.2.2.2, c.1, c.2.1, c.2.2.1, c.2.2.2, l, m), ⟨R, R, R, R, trivial⟩, f, d, a, e, i, g⟩
   exact t_none
 rintro ⟨E, x, Y, Z, F, y, aa, ab, n, o⟩ ae aK ⟨f, d, a, e, ar, au⟩
 refine c_seq (c_block (c_join (σ := Bool) (fun J => match J with | S => [(1, Vi j), (2, Vi k), (19, .bool S)]) (fun J C => match J with | S => job_relation_J9 j k S = some ad ∧ Ev [] r C ∧ MS C [s] ∧ FR r.heap.size []) ?_ ?_))
 · refine c_plain (x_fieldAddr (xv := Vp n 0) (Vp n 0) R R R (reads_field tfld76_0 _ _) (x_load (xv := Vp n 0) (Vi E) R R R (reads_box tcell3 ar nn 0 _ R) (x_fieldAddr (xv := Vp o 0) (Vp o 0) R R R (reads_field tfld76_0 _ _) (x_load (xv := Vp o 0) (Vi F) R R R (reads_box tcell3 au nn 0 _ R) (x_u 2 [(24, .bool (E != F)), (25, .bool (E != F))] (x_if 25 (E != F) R f (fun f => ?_) (fun f => ?_)))))))
   · refine x_u 7 [(26, undef), (27, undef), (28, undef), (29, undef), (30, undef), (31, .bool true), (19, .bool true)] (x_end R ?_)
     have q := a.pick [some 2] [s] R
     replace a := q
     replace e := e.pick [] [] R
     clear q
     exact k_then ⟨true, ⟨R, R, R, trivial⟩, f, d, a, e⟩
   refine x_fieldAddr (xv := Vp n 0) (Vp n 1) R R R (reads_field tfld76_1 _ _) (x_load (xv := Vp n 1) (Vi x) R R R (reads_box tcell3 ar nn 1 _ R) (x_fieldAddr (xv := Vp o 0) (Vp o 1) R R R (reads_field tfld76_1 _ _) (x_load (xv := Vp o 1) (Vi y) R R R (reads_box tcell3 au nn 1 _ R) (x_u 3 [(30, .bool (decide (x ≥ y))), (31, .bool (decide (x ≥ y))), (19, .bool (decide (x ≥ y)))] (x_end R ?_)))))
   have q := a.pick [some 2] [s] R
   replace a := q
   replace e := e.pick [] [] R
   clear q
   exact k_then ⟨decide (x ≥ y), ⟨R, R, R, trivial⟩, f, d, a, e⟩
 rintro S ae aL ⟨f, d, a, e⟩
 refine c_if S R f (fun f => ?_) (fun f => ?_)
 · refine c_sp (x_u 1 [(6, Vi 0)] (x_ek (c_nm [(6, Vi 0)] (fun ae => ?_))))
   refine c_ret (k_block_ret (k_then_ret (r_ret (r_vals [Vi 0] ⟨R, trivial⟩ ?_))))
   obtain rfl := some_inj f
   exact ⟨R, d⟩
 refine c_sp (x_u 4 [(33, Vi k), (34, Vi j), (35, .bool (decide (k < j))), (32, .bool (decide (k < j)))] (x_ek (c_nm [(32, .bool (decide (k < j)))] (fun ae => ?_))))
 refine c_if (decide (k < j)) R f (fun f => ?_) (fun f => ?_)
 · refine c_sp (x_u 1 [(6, Vi 2)] (x_ek (c_ret (k_block_ret (k_then_ret (r_ret (r_vals [Vi 2] ⟨R, trivial⟩ ?_)))))))
   obtain rfl := some_inj f
   exact ⟨R, d⟩
 refine c_skip (k_block (k_then (c_sp (x_u 1 [(6, Vi 1)] (x_ek (c_ret (r_ret (r_vals [Vi 1] ⟨R, trivial⟩ ?_))))))))
 obtain rfl := some_inj f
 exact ⟨R, d⟩
def job_Relation (a : List (Int × Int × Int × Int)) (b : Int) (c : Int) (d : Int) : Option (Int × Int) :=
((job_Valid a b).bind fun e =>
(if (e != 0) = true then
some (0, e)
else
((job_in c 0 (i64.wrap (((a).length : Int) - 1))).bind fun h =>
(if (!h) = true then
some (0, 2)
else
((job_in d 0 (i64.wrap (((a).length : Int) - 1))).bind fun f =>
(if (!f) = true then
some (0, 2)
else
((job_relation a b c d).bind fun g =>
some (g, 0))))))))
theorem job_Relation_w (c : Option Addr) (d : Nat) (a : List (Int × Int × Int × Int)) (h : Int) (k : Int) (l : Int) (y : Int × Int) (r : World) (o : List Nat) (m : MS r [o]) (n : SlR (eIt4) r (fl [o]) c d a) (b : job_Relation a h k l = some y) : CallVC Tryz.prog 91 [.agg #[Vl c a d, Vi h], Vi k, Vi l] r fun s F => s = .tuple #[Vi y.1, Vi y.2] ∧ Ev [] r F := by
 refine calls_vc hmx Tryz.func91 (by kernel_rfl) R (rs := [.tmp 6, .tmp 7]) R (by kernel_rfl) (args := [.agg #[Vl c a d, Vi h], Vi k, Vi l]) R ?_
 have f : Ev [] r r := Ev.refl _ _
 refine c_sp (x_box (xv := .agg #[Vl c a d, Vi h]) R R R (fun e B A g x J => ?_))
 replace g : B.heap[e]? = some (.cells #[Vl c a d, Vi h] 50 (0, 0)) := g
 refine inl1 ?_
 have p := Stp.box (ls := [o]) x A
 replace n := n.step p
 replace m := m.box x A g
 replace f := f.ext x
 refine x_u 2 [(6, Vi 0), (7, Vi 0)] (x_ek (c_seq (c_sp (x_load (xv := Vp e 0) (.agg #[Vl c a d, Vi h]) R R R (reads_boxagg 0 [Vl c a d, Vi h] tagg50 g nn R) ?_))))
 obtain ⟨q, j, b⟩ := bind_some b
 have i := job_Valid_w c d a h _ B (fl [[e], o]) (MS.fold (P := []) m) (n.sub fl1) j
 refine x_call 46 #[] #[] [.agg #[Vl c a d, Vi h]] _ R R R R i ?_
 rintro s H ⟨rfl, u⟩
 clear i j
 refine inl1 ?_
 have p := Stp.ext (ls := [[e], o]) u
 replace n := n.step p
 replace g := u.box g nn
 replace m := m.ev u
 replace f := f.ext u
 refine x_u 1 [(8, Vi q)] (x_ek (c_sp (x_u 2 [(11, Vi q), (12, .bool (q != 0))] (x_ek (c_if (q != 0) R b (fun b => ?_) (fun b => ?_))))))
 · refine c_sp (x_u 3 [(13, Vi q), (6, Vi 0), (7, Vi q)] (x_ek (c_ret (k_then_ret (r_ret (r_vals [Vi 0, Vi q] ⟨R, R, trivial⟩ ?_))))))
   obtain rfl := some_inj b
   exact ⟨R, f⟩
 refine c_skip (k_then (c_seq (c_sp (x_u 1 [(14, Vi k)] (x_fieldAddr (xv := Vp e 0) (Vp e 0) R R R (reads_field tfld50_0 _ _) (x_load (xv := Vp e 0) (Vl c a d) R R R (reads_box tcell36 g nn 0 _ R) (x_len (vs := [Vl c a d]) (Vi ((a).length : Int)) R R R (reads_len tsl36 _ _ _ _ _) (x_u 1 [(18, Vi (i64.wrap (((a).length : Int) - 1)))] ?_))))))))
 obtain ⟨z, j, b⟩ := bind_some b
 have i := job_in_w k 0 (i64.wrap (((a).length : Int) - 1)) _ H j
 refine x_call 56 #[] #[] [Vi k, Vi 0, Vi (i64.wrap (((a).length : Int) - 1))] _ R R R R i ?_
 rintro s I ⟨rfl, v⟩
 clear i j
 refine inl1 ?_
 have p := Stp.ext (ls := [[e], o]) v
 replace n := n.step p
 replace g := v.box g nn
 replace m := m.ev v
 replace f := f.ext v
 refine x_u 2 [(20, .bool (!z)), (21, .bool (!z))] (x_if 21 (!z) R b (fun b => ?_) (fun b => ?_))
 · refine x_u 8 [(22, undef), (23, undef), (24, undef), (25, undef), (26, undef), (27, undef), (28, undef), (29, .bool true)] (x_ek (c_nm [(1, Vi k), (2, Vi l), (3, Vp e 0), (29, .bool true)] (fun D => ?_)))
   refine c_true R (c_sp (x_u 2 [(6, Vi 0), (7, Vi 2)] (x_ek (c_ret (k_then_ret (r_ret (r_vals [Vi 0, Vi 2] ⟨R, R, trivial⟩ ?_)))))))
   obtain rfl := some_inj b
   exact ⟨R, f⟩
 refine x_u 1 [(22, Vi l)] (x_fieldAddr (xv := Vp e 0) (Vp e 0) R R R (reads_field tfld50_0 _ _) (x_load (xv := Vp e 0) (Vl c a d) R R R (reads_box tcell36 g nn 0 _ R) (x_len (vs := [Vl c a d]) (Vi ((a).length : Int)) R R R (reads_len tsl36 _ _ _ _ _) (x_u 1 [(26, Vi (i64.wrap (((a).length : Int) - 1)))] ?_))))
 obtain ⟨w, j, b⟩ := bind_some b
 have i := job_in_w l 0 (i64.wrap (((a).length : Int) - 1)) _ I j
 refine x_call 56 #[] #[] [Vi l, Vi 0, Vi (i64.wrap (((a).length : Int) - 1))] _ R R R R i ?_
 rintro s G ⟨rfl, t⟩
 clear i j
 refine inl1 ?_
 have p := Stp.ext (ls := [[e], o]) t
 replace n := n.step p
 replace g := t.box g nn
 replace m := m.ev t
 replace f := f.ext t
 refine x_u 2 [(28, .bool (!w)), (29, .bool (!w))] (x_ek (c_nm [(1, Vi k), (2, Vi l), (3, Vp e 0), (29, .bool (!w))] (fun D => ?_)))
 refine c_if (!w) R b (fun b => ?_) (fun b => ?_)
 · refine c_sp (x_u 2 [(6, Vi 0), (7, Vi 2)] (x_ek (c_ret (k_then_ret (r_ret (r_vals [Vi 0, Vi 2] ⟨R, R, trivial⟩ ?_))))))
   obtain rfl := some_inj b
   exact ⟨R, f⟩
 refine c_skip (k_then (c_sp (x_load (xv := Vp e 0) (.agg #[Vl c a d, Vi h]) R R R (reads_boxagg 0 [Vl c a d, Vi h] tagg50 g nn R) (x_u 2 [(31, Vi k), (32, Vi l)] ?_))))
 obtain ⟨C, j, b⟩ := bind_some b
 have i := job_relation_w c d a h k l _ G (fl [[e], o]) (MS.fold (P := []) m) (n.sub fl1) j
 refine x_call 122 #[] #[] [.agg #[Vl c a d, Vi h], Vi k, Vi l] _ R R R R i ?_
 rintro s K ⟨rfl, E⟩
 clear i j
 refine inl1 ?_
 replace f := f.ext E
 refine x_u 2 [(6, Vi C), (7, Vi 0)] (x_ek (c_ret (r_ret (r_vals [Vi C, Vi 0] ⟨R, R, trivial⟩ ?_))))
 obtain rfl := some_inj b
 exact ⟨R, f⟩
end Go.Proofs.YtlejnkhaphlooaaGreat
