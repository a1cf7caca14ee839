
/- Walks, printed by program: each function returns what the partial function of the same name returns. Conditions: those of each theorem. -/
import Derived.Test.YtlejnkhaphlooaaGreatGT
import Derived.Test.YtlejnkhaphlooaaGreatGcode
import Derived.Test.YtlejnkhaphlooaaGreatGjob
set_option linter.unusedVariables false
set_option linter.unusedSimpArgs false
set_option maxRecDepth 4000
namespace Go.Proofs.YtlejnkhaphlooaaGreat
open Go Go.V Go.Proofs Go.IntKind
def rollin_Valid_L11 (e : List (Int × Int × Int × Int)) (f : Int) (b : Int) (c : List Int) (g : Int) : Option (Step Int (Unit ⊕ Unit)) :=
match g with
| a =>
(if (decide (a < ((c).length : Int))) = true then
((idx c a).bind fun d =>
((idx e a).bind fun h =>
((code_Is d h.2.2.1 f).bind fun i =>
(if (!i) = true then
some (.done (.inl ()))
else
(if 0 ≤ b then
(if ((Int.fdiv d (2 ^ (min (Int.toNat (b)) i64.bits))) != 0) = true then
some (.done (.inl ()))
else
some (.next (i64.wrap (a + 1))))
else none)))))
else
some (.done (.inr ())))
def rollin_Valid (a : List (Int × Int × Int × Int)) (c : Int) (b : Int) (d : List Int) : Option Int :=
((job_Valid a c).bind fun e =>
(if (e != 0) = true then
some e
else
(if (decide (b < 0)) = true then
some 1
else
(if (decide (b > 12)) = true then
some 1
else
(if (((d).length : Int) != ((a).length : Int)) = true then
some 1
else
((loop (rollin_Valid_L11 a c b d) 0).bind fun f => match f with
| (.inl _) => some 1
| (.inr _) => some 0))))))
theorem rollin_Valid_w (q : Option Addr) (r : Nat) (g : List (Int × Int × Int × Int)) (t : Int) (e : Int) (l : Option Addr) (m : Nat) (d : List Int) (ad : Int) (v : World) (p : List Nat) (n : MS v [p]) (k : SlR (eIt4) v (fl [p]) q r g) (o : SlR (eInt .i64) v (fl [p]) l m d) (a : rollin_Valid g t e d = some ad) : CallVC Tryz.prog 53 [.agg #[Vl q g r, Vi t], .agg #[Vi e, Vl l d m]] v fun Y x => Y = Vi ad ∧ Ev [] v x := by
 refine calls_vc hmx Tryz.func53 (by kernel_rfl) R (rs := [.tmp 4]) R (by kernel_rfl) (args := [.agg #[Vl q g r, Vi t], .agg #[Vi e, Vl l d m]]) R ?_
 have f : Ev [] v v := Ev.refl _ _
 have w : FR v.heap.size [] := FR.nil _
 refine c_sp (x_box (xv := .agg #[Vl q g r, Vi t]) R R R (fun c an S h Q aq => ?_))
 replace h : an.heap[c]? = some (.cells #[Vl q g r, Vi t] 50 (0, 0)) := h
 refine inl1 ?_
 have s := Stp.box (ls := [p]) Q S
 replace k := k.step s
 replace o := o.step s
 replace n := n.box Q S h
 replace w := w.box f.size S
 replace f := f.ext Q
 refine x_box (xv := .agg #[Vi e, Vl l d m]) R R R (fun b ae U j K ar => ?_)
 replace j : ae.heap[b]? = some (.cells #[Vi e, Vl l d m] 52 (0, 0)) := j
 refine inl1 ?_
 have s := Stp.box (ls := [[c], p]) K U
 replace k := k.step s
 replace o := o.step s
 replace h := K.box h nn
 replace n := n.box K U j
 replace w := w.box f.size U
 replace f := f.ext K
 refine x_u 1 [(4, Vi 0)] (x_ek (c_seq (c_sp (x_load (xv := Vp c 0) (.agg #[Vl q g r, Vi t]) R R R (reads_boxagg 0 [Vl q g r, Vi t] tagg50 h nn R) ?_))))
 obtain ⟨A, F, a⟩ := bind_some a
 have C := job_Valid_w q r g t _ ae (fl [[b], [c], p]) (MS.fold (P := []) n) (k.sub fl1) F
 refine x_call 46 #[] #[] [.agg #[Vl q g r, Vi t]] _ R R R R C ?_
 rintro Y aw ⟨rfl, E⟩
 clear C F
 refine inl1 ?_
 have s := Stp.ext (ls := [[b], [c], p]) E
 replace k := k.step s
 replace o := o.step s
 replace h := E.box h nn
 replace j := E.box j nn
 replace n := n.ev E
 replace f := f.ext E
 refine x_u 1 [(5, Vi A)] (x_ek (c_sp (x_u 2 [(10, Vi A), (11, .bool (A != 0))] (x_ek (c_if (A != 0) R a (fun a => ?_) (fun a => ?_))))))
 · refine c_sp (x_u 2 [(12, Vi A), (4, Vi A)] (x_ek (c_ret (k_then_ret (r_ret (r_vals [Vi A] ⟨R, trivial⟩ ?_))))))
   obtain rfl := some_inj a
   exact ⟨R, f⟩
 refine c_skip (k_then (c_seq (c_sp (x_fieldAddr (xv := Vp b 0) (Vp b 0) R R R (reads_field tfld52_0 _ _) (x_load (xv := Vp b 0) (Vi e) R R R (reads_box tcell3 j nn 0 _ R) (x_u 2 [(15, .bool (decide (e < 0))), (16, .bool (decide (e < 0)))] (x_if 16 (decide (e < 0)) R a (fun a => ?_) (fun a => ?_))))))))
 · refine x_u 13 [(17, undef), (18, undef), (19, undef), (20, .bool true), (21, .bool true), (22, undef), (23, undef), (24, undef), (25, undef), (26, undef), (27, undef), (28, undef), (29, .bool true)] (x_ek (c_nm [(2, Vp c 0), (3, Vp b 0), (29, .bool true)] (fun y => ?_)))
   refine c_true R (c_sp (x_u 1 [(4, Vi 1)] (x_ek (c_ret (k_then_ret (r_ret (r_vals [Vi 1] ⟨R, trivial⟩ ?_)))))))
   obtain rfl := some_inj a
   exact ⟨R, f⟩
 refine x_fieldAddr (xv := Vp b 0) (Vp b 0) R R R (reads_field tfld52_0 _ _) (x_load (xv := Vp b 0) (Vi e) R R R (reads_box tcell3 j nn 0 _ R) (x_u 3 [(19, .bool (decide (e > 12))), (20, .bool (decide (e > 12))), (21, .bool (decide (e > 12)))] (x_if 21 (decide (e > 12)) R a (fun a => ?_) (fun a => ?_))))
 · refine x_u 8 [(22, undef), (23, undef), (24, undef), (25, undef), (26, undef), (27, undef), (28, undef), (29, .bool true)] (x_ek (c_nm [(2, Vp c 0), (3, Vp b 0), (29, .bool true)] (fun y => ?_)))
   refine c_true R (c_sp (x_u 1 [(4, Vi 1)] (x_ek (c_ret (k_then_ret (r_ret (r_vals [Vi 1] ⟨R, trivial⟩ ?_)))))))
   obtain rfl := some_inj a
   exact ⟨R, f⟩
 refine x_fieldAddr (xv := Vp b 0) (Vp b 1) R R R (reads_field tfld52_1 _ _) (x_load (xv := Vp b 1) (Vl l d m) R R R (reads_box tcell22 j nn 1 _ R) (x_len (vs := [Vl l d m]) (Vi ((d).length : Int)) R R R (reads_len tsl22 _ _ _ _ _) (x_fieldAddr (xv := Vp c 0) (Vp c 0) R R R (reads_field tfld50_0 _ _) (x_load (xv := Vp c 0) (Vl q g r) R R R (reads_box tcell36 h nn 0 _ R) (x_len (vs := [Vl q g r]) (Vi ((g).length : Int)) R R R (reads_len tsl36 _ _ _ _ _) (x_u 2 [(28, .bool (((d).length : Int) != ((g).length : Int))), (29, .bool (((d).length : Int) != ((g).length : Int)))] (x_ek (c_nm [(2, Vp c 0), (3, Vp b 0), (29, .bool (((d).length : Int) != ((g).length : Int)))] (fun y => ?_)))))))))
 refine c_if (((d).length : Int) != ((g).length : Int)) R a (fun a => ?_) (fun a => ?_)
 · refine c_sp (x_u 1 [(4, Vi 1)] (x_ek (c_ret (k_then_ret (r_ret (r_vals [Vi 1] ⟨R, trivial⟩ ?_))))))
   obtain rfl := some_inj a
   exact ⟨R, f⟩
 refine c_skip (k_then (c_seq (c_sp (x_fieldAddr (xv := Vp b 0) (Vp b 1) R R R (reads_field tfld52_1 _ _) (x_load (xv := Vp b 1) (Vl l d m) R R R (reads_box tcell22 j nn 1 _ R) (x_len (vs := [Vl l d m]) (Vi ((d).length : Int)) R R R (reads_len tsl22 _ _ _ _ _) (x_u 1 [(33, Vi 0)] (x_ek (c_block ?_)))))))))
 have ac := n.pick [some 1, some 0, some 2] [[c], [b], p] R
 have X := pick_sub (ls := [[b], [c], p]) [some 1, some 0, some 2] [[c], [b], p] R
 replace k := k.sub X
 replace o := o.sub X
 replace n := ac
 replace w := w.pick [some 1, some 0] [[c], [b]] R
 clear ac X
 obtain ⟨af, O, L⟩ := bind_some a
 obtain ⟨H, O⟩ := loop_some O
 refine c_loop (loop_rule hmx (σ := Nat × Int) (fun I => match I with | (_, i) => [(2, Vp c 0), (3, Vp b 0), (31, Vl l d m), (32, Vi ((d).length : Int)), (33, Vi i)]) (fun I x => match I with | (am, i) => loopN (rollin_Valid_L11 g t e d) am i = some af ∧ Ev [] v x ∧ MS x [[c], [b], p] ∧ FR v.heap.size [[c], [b]] ∧ SlR (eIt4) x (fl [[c], [b], p]) q r g ∧ x.heap[c]? = some (.cells #[Vl q g r, Vi t] 50 (0, 0)) ∧ SlR (eInt .i64) x (fl [[c], [b], p]) l m d ∧ x.heap[b]? = some (.cells #[Vi e, Vl l d m] 52 (0, 0))) (fun I => I.1) (H, 0) ⟨R, R, R, R, R, trivial⟩ ⟨O, f, n, w, k, h, o, j⟩ ?_)
 rintro ⟨H, i⟩ y B ⟨z, f, n, w, k, h, o, j⟩
 rcases H with _ | H
 · exact (loopN_zero z).elim
 obtain ⟨au, a, z⟩ := bind_some z
 refine c_sp (x_u 1 [(34, .bool (decide (i < ((d).length : Int))))] (x_ek (c_nm [(2, Vp c 0), (3, Vp b 0), (31, Vl l d m), (32, Vi ((d).length : Int)), (33, Vi i), (34, .bool (decide (i < ((d).length : Int))))] (fun y => ?_))))
 refine c_seq (c_if (decide (i < ((d).length : Int))) R a (fun a => ?_) (fun a => ?_))
 · refine c_skip (k_then (c_seq (c_block (c_sp (x_u 1 [(35, Vi i)] ?_)))))
   obtain ⟨u, ak, a⟩ := bind_some a
   obtain ⟨ab, ao, ai, ag, N⟩ := reads_index (Mo := []) tsl22 o ak
   obtain rfl := N
   refine x_indexAddr (xv := Vl l d m) (yv := Vi i) (.pointer (some ab)) R R R R ai (x_load (xv := .pointer (some ab)) (Vi u) R R R (reads_cell0 tcell3 ag (fun _ a => by cases a)) ?_)
   refine x_u 2 [(6, Vi i), (7, Vi u)] (x_ek (c_seq (c_drawn [] [(0, false), (1, false), (2, false), (3, false), (4, false), (5, false), (6, false), (7, false), (8, false), (9, true), (10, false), (11, false), (12, false), (13, false), (14, false), (15, false), (16, false), (17, false)] _ (by kernel_rfl) R ?_)))
   have s := Stp.ext (ls := [[c], [b], p]) (Ev.drew B)
   replace h := (Ev.drew B).box h nn
   replace k := k.step s
   replace j := (Ev.drew B).box j nn
   replace o := o.step s
   replace n := n.ev (Ev.drew B)
   replace f := f.ext (Ev.drew B)
   refine x_u 1 [(38, Vi u)] (x_fieldAddr (xv := Vp c 0) (Vp c 0) R R R (reads_field tfld50_0 _ _) (x_load (xv := Vp c 0) (Vl q g r) R R R (reads_box tcell36 h nn 0 _ R) (x_u 1 [(41, Vi i)] ?_)))
   obtain ⟨Z, al, a⟩ := bind_some a
   obtain ⟨J, ap, aj, ah, N⟩ := reads_index (Mo := []) tsl36 k al
   obtain ⟨_, _, rfl, rfl, ⟨_, _, rfl, rfl, ⟨_, _, rfl, rfl, rfl⟩⟩⟩ := N
   refine x_indexAddr (xv := Vl q g r) (yv := Vi i) (.pointer (some J)) R R R R aj (x_fieldAddr (xv := .pointer (some J)) (.pointer (some (Addr.add J 2))) R R R (reads_field tfld76_2 _ _) (x_load (xv := .pointer (some (Addr.add J 2))) (Vi Z.2.2.1) R R R (reads_cell tcell3 ah (fun _ a => by cases a) 2 _ R) ?_))
   refine x_fieldAddr (xv := Vp c 0) (Vp c 1) R R R (reads_field tfld50_1 _ _) (x_load (xv := Vp c 1) (Vi t) R R R (reads_box tcell3 h nn 1 _ R) ?_)
   obtain ⟨aa, F, a⟩ := bind_some a
   have C := code_Is_w u Z.2.2.1 t _ (B).drew F
   refine x_call 85 #[] #[] [Vi u, Vi Z.2.2.1, Vi t] _ R R R R C ?_
   rintro Y av ⟨rfl, D⟩
   clear C F
   refine inl1 ?_
   have s := Stp.ext (ls := [[c], [b], p]) D
   replace h := D.box h nn
   replace k := k.step s
   replace j := D.box j nn
   replace o := o.step s
   replace n := n.ev D
   replace f := f.ext D
   refine x_u 2 [(48, .bool (!aa)), (49, .bool (!aa))] (x_if 49 (!aa) R a (fun a => ?_) (fun a => ?_))
   · refine x_u 6 [(50, undef), (51, undef), (52, undef), (53, undef), (54, undef), (55, .bool true)] (x_ek (c_nm [(2, Vp c 0), (3, Vp b 0), (31, Vl l d m), (32, Vi ((d).length : Int)), (33, Vi i), (55, .bool true)] (fun y => ?_)))
     refine c_true R (c_sp (x_u 1 [(4, Vi 1)] (x_ek (c_ret (k_block_ret (k_then_ret ?_))))))
     obtain rfl := some_inj a
     have G := some_inj z
     subst G
     replace a := L
     refine k_then_ret (k_block_ret (k_then_ret (r_ret (r_vals [Vi 1] ⟨R, trivial⟩ ?_))))
     obtain rfl := some_inj a
     exact ⟨R, f⟩
   refine x_u 1 [(50, Vi u)] (x_fieldAddr (xv := Vp b 0) (Vp b 0) R R R (reads_field tfld52_0 _ _) (x_load (xv := Vp b 0) (Vi e) R R R (reads_box tcell3 j nn 0 _ R) (x_binop (Vi (Int.fdiv u (2 ^ (min (Int.toNat (e)) i64.bits)))) (Vi u) (Vi e) R R R R (vb_shr (guard_l a)) ?_)))
   replace a := guard_r a
   refine x_u 2 [(54, .bool ((Int.fdiv u (2 ^ (min (Int.toNat (e)) i64.bits))) != 0)), (55, .bool ((Int.fdiv u (2 ^ (min (Int.toNat (e)) i64.bits))) != 0))] (x_ek (c_nm [(2, Vp c 0), (3, Vp b 0), (31, Vl l d m), (32, Vi ((d).length : Int)), (33, Vi i), (55, .bool ((Int.fdiv u (2 ^ (min (Int.toNat (e)) i64.bits))) != 0))] (fun y => ?_)))
   refine c_if ((Int.fdiv u (2 ^ (min (Int.toNat (e)) i64.bits))) != 0) R a (fun a => ?_) (fun a => ?_)
   · refine c_sp (x_u 1 [(4, Vi 1)] (x_ek (c_ret (k_block_ret (k_then_ret ?_)))))
     obtain rfl := some_inj a
     have G := some_inj z
     subst G
     replace a := L
     refine k_then_ret (k_block_ret (k_then_ret (r_ret (r_vals [Vi 1] ⟨R, trivial⟩ ?_))))
     obtain rfl := some_inj a
     exact ⟨R, f⟩
   refine c_skip (k_block (k_then (c_plain (x_u 2 [(56, Vi (i64.wrap (i + 1))), (33, Vi (i64.wrap (i + 1)))] (x_end R ?_)))))
   obtain rfl := some_inj a
   exact k_then ⟨(H, i64.wrap (i + 1)), ⟨R, R, R, R, R, trivial⟩, ⟨z, f, n, w, k, h, o, j⟩, Nat.lt_succ_self _⟩
 refine c_exit (k_then_exit ?_)
 obtain rfl := some_inj a
 have G := some_inj z
 subst G
 replace a := L
 refine k_then_exit (k_block_in (k_then (c_norm [] trivial (fun y => ?_))))
 refine c_sp (x_u 1 [(4, Vi 0)] (x_ek (c_ret (r_ret (r_vals [Vi 0] ⟨R, trivial⟩ ?_)))))
 obtain rfl := some_inj a
 exact ⟨R, f⟩
def rollin_start_L20 (c : Int × Int × Int × Int) (b : (List (List Int))) : Option (Step (List (List Int)) (List (List Int))) :=
match b with
| a =>
(if (decide (((a).length : Int) ≤ c.1)) = true then
(if a.length + 1 ≤ 4294967296 then
some (.next (a ++ [([] : List Int)]))
else none)
else
some (.done a))
def rollin_start_L11 (c : List (Int × Int × Int × Int)) (f : (List (List Int)) × Int) : Option (Step ((List (List Int)) × Int) (List (List Int))) :=
match f with
| (b, a) =>
(if (decide (a < ((c).length : Int))) = true then
((idx c a).bind fun g =>
((loop (rollin_start_L20 g) b).bind fun d => match d with
| e => some (.next (e, i64.wrap (a + 1)))))
else
some (.done b))
def rollin_start (b : List (Int × Int × Int × Int)) (e : Int) (a : Int) (f : List Int) : Option (((List (Int × Int × Int × Int)) × Int) × (Int × (List Int)) × (List (List Int)) × (List (List Int)) × Int × Int) :=
(if (0 : Int) ≤ a ∧ (a : Int) ≤ 4294967296 then
((loop (rollin_start_L11 b) (([] : List (List Int)), 0)).bind fun c => match c with
| d => some ((b, e), (a, f), (List.replicate (Int.toNat a) ([] : List Int)), d, 0, 0))
else none)
theorem rollin_start_w (o : Option Addr) (q : Nat) (i : List (Int × Int × Int × Int)) (G : Int) (n : Int) (x : Option Addr) (y : Nat) (C : List Int) (L : (((List (Int × Int × Int × Int)) × Int) × (Int × (List Int)) × (List (List Int)) × (List (List Int)) × Int × Int)) (H : World) (e : List Nat) (b : MS H [e]) (f : SlR (eIt4) H (fl [e]) o q i) (h : SlR (eInt .i64) H (fl [e]) x y C) (g : rollin_start i G n C = some L) : CallVC Tryz.prog 70 [.agg #[Vl o i q, Vi G], .agg #[Vi n, Vl x C y]] H fun bu t => ∃ (ag : Nat), ∃ (aU : Option Addr), ∃ (a2 : Nat), ∃ (aX : Option Addr), ∃ (a3 : Nat), ∃ (aY : Option Addr), ∃ (a4 : Nat), ∃ (ap : List Nat), ∃ (aZ : Option Addr), ∃ (a5 : Nat), ∃ (an : List Nat), bu = .pointer (some ⟨ag, 0, none⟩) ∧ Ev [] H t ∧ MS t [[ag], ap, an, e] ∧ FR H.heap.size [[ag], ap, an] ∧ t.heap[ag]? = some (.cells #[Vl aU L.1.1 a2, Vi L.1.2, Vi L.2.1.1, Vl aX L.2.1.2 a3, Vl aY L.2.2.1 a4, Vl aZ L.2.2.2.1 a5, Vi L.2.2.2.2.1, Vi L.2.2.2.2.2] 109 (0, 0)) ∧ SlR (eIt4) t (fl [[ag], ap, an, e]) aU a2 L.1.1 ∧ SlR (eInt .i64) t (fl [[ag], ap, an, e]) aX a3 L.2.1.2 ∧ OwnR (eInt .i64) 3 22 t ap aY a4 L.2.2.1 none ∧ OwnR (eInt .i64) 3 22 t an aZ a5 L.2.2.2.1 none := by
 refine calls_vc hmx Tryz.func70 (by kernel_rfl) R (rs := [.tmp 4]) R (by kernel_rfl) (args := [.agg #[Vl o i q, Vi G], .agg #[Vi n, Vl x C y]]) R ?_
 have j : Ev [] H H := Ev.refl _ _
 have m : FR H.heap.size [] := FR.nil _
 refine c_sp (x_box (xv := .agg #[Vl o i q, Vi G]) R R R (fun N bz aI K aE bF => ?_))
 replace K : bz.heap[N]? = some (.cells #[Vl o i q, Vi G] 50 (0, 0)) := K
 refine inl1 ?_
 have k := Stp.box (ls := [e]) aE aI
 replace f := f.step k
 replace h := h.step k
 replace b := b.box aE aI K
 replace m := m.box j.size aI
 replace j := j.ext aE
 refine x_box (xv := .agg #[Vi n, Vl x C y]) R R R (fun S ad aJ ab aA bG => ?_)
 replace ab : ad.heap[S]? = some (.cells #[Vi n, Vl x C y] 52 (0, 0)) := ab
 refine inl1 ?_
 have k := Stp.box (ls := [[N], e]) aA aJ
 replace f := f.step k
 replace h := h.step k
 replace K := aA.box K nn
 replace b := b.box aA aJ ab
 replace m := m.box j.size aJ
 replace j := j.ext aA
 refine x_u 1 [(4, .pointer none)] (x_ek (c_seq (c_drawn [] [(0, false), (1, false), (2, false), (3, false), (4, false), (5, false), (6, true), (7, false)] _ (by kernel_rfl) R ?_)))
 have k := Stp.ext (ls := [[S], [N], e]) (Ev.drew ad)
 replace f := f.step k
 replace h := h.step k
 replace K := (Ev.drew ad).box K nn
 replace ab := (Ev.drew ad).box ab nn
 replace b := b.ev (Ev.drew ad)
 replace j := j.ext (Ev.drew ad)
 refine x_load (xv := Vp N 0) (.agg #[Vl o i q, Vi G]) R R R (reads_boxagg 0 [Vl o i q, Vi G] tagg50 K nn R) (x_load (xv := Vp S 0) (.agg #[Vi n, Vl x C y]) R R R (reads_boxagg 0 [Vi n, Vl x C y] tagg52 ab nn R) (x_fieldAddr (xv := Vp S 0) (Vp S 0) R R R (reads_field tfld52_0 _ _) (x_load (xv := Vp S 0) (Vi n) R R R (reads_box tcell3 ab nn 0 _ R) ?_)))
 have aB := guard_l g
 replace g := guard_r g
 obtain ⟨Q, U, bA, d, bq, aq, aG, u⟩ := OwnR.mk (P := Tryz.prog) (T := 3) (eInt .i64) tel57 (ad).drew n aB.1 aB.2
 refine x_makeSlice _ bA (xv := Vi n) (yv := Vi n) R R R R bq (⟨.inr aq, ?_⟩)
 have k := Stp.push (ls := [[S], [N], e]) (l := d) aq (fun _ g => by cases g) (fun I J => (aG I J).1)
 replace f := f.step k
 replace h := h.step k
 replace K := aq.box K nn
 replace b := b.push aq aG
 replace m := m.push (fun I J => Nat.le_trans j.size (aG I J).1)
 replace j := j.ext aq
 refine x_build (vs := [(0, .agg #[Vl o i q, Vi G]), (1, .agg #[Vi n, Vl x C y]), (2, .slice Q ((List.replicate (Int.toNat n) ([] : List Int))).length U)]) (.agg #[Vl o i q, Vi G, Vi n, Vl x C y, .slice Q ((List.replicate (Int.toNat n) ([] : List Int))).length U, .slice none 0 0, Vi 0, Vi 0]) R R R (fun _ _ => by kernel_rfl) ?_
 refine x_box (xv := .agg #[Vl o i q, Vi G, Vi n, Vl x C y, .slice Q ((List.replicate (Int.toNat n) ([] : List Int))).length U, .slice none 0 0, Vi 0, Vi 0]) R R R (fun a aS aK r ar bH => ?_)
 replace r : aS.heap[a]? = some (.cells #[Vl o i q, Vi G, Vi n, Vl x C y, .slice Q ((List.replicate (Int.toNat n) ([] : List Int))).length U, .slice none 0 0, Vi 0, Vi 0] 109 (0, 0)) := r
 refine inl1 ?_
 have k := Stp.box (ls := [d, [S], [N], e]) ar aK
 replace f := f.step k
 replace h := h.step k
 replace K := ar.box K nn
 replace u := u.step (plain_int _) ar nn2
 replace b := b.box ar aK r
 replace m := m.box j.size aK
 replace j := j.ext ar
 refine x_u 1 [(5, Vp a 0)] (x_ek (c_seq (c_sp (x_fieldAddr (xv := Vp N 0) (Vp N 0) R R R (reads_field tfld50_0 _ _) (x_load (xv := Vp N 0) (Vl o i q) R R R (reads_box tcell36 K nn 0 _ R) (x_len (vs := [Vl o i q]) (Vi ((i).length : Int)) R R R (reads_len tsl36 _ _ _ _ _) (x_u 1 [(18, Vi 0)] (x_ek (c_nm [(5, Vp a 0), (16, Vl o i q), (17, Vi ((i).length : Int)), (18, Vi 0)] (fun ae => ?_))))))))))
 refine c_block ?_
 have k := Stp.push (ls := [[a], d, [S], [N], e]) (l := ([] : List Nat)) (Ev.refl [] aS) (fun _ g => by cases g) (fun _ g => by cases g)
 replace f := f.step k
 replace h := h.step k
 replace u := u.step (plain_int _) (Ev.refl [] _) nn2
 replace r := (Ev.refl [] _).box r nn
 replace b := b.push (l := ([] : List Nat)) (Ev.refl [] _) (fun _ g => by cases g)
 replace m := m.push (l := ([] : List Nat)) (fun _ g => by cases g)
 have bk := OwnR.nil (eInt .i64) 3 22 aS ([] : List Nat)
 have Z := b.pick [some 2, some 0, some 1, some 5] [d, ([] : List Nat), [a], e] R
 have F := pick_sub (ls := [([] : List Nat), [a], d, [S], [N], e]) [some 2, some 0, some 1, some 5] [d, ([] : List Nat), [a], e] R
 replace f := f.sub F
 replace h := h.sub F
 replace b := Z
 replace m := m.pick [some 2, some 0, some 1] [d, ([] : List Nat), [a]] R
 clear Z F
 obtain ⟨a9, aC, bb⟩ := bind_some g
 obtain ⟨aw, aC⟩ := loop_some aC
 refine c_loop (loop_rule hmx (σ := Nat × (List (List Int)) × Int × Option Addr × Nat × List Nat) (fun O => match O with | (_, ai, E, af, ah, v) => [(5, Vp a 0), (16, Vl o i q), (17, Vi ((i).length : Int)), (18, Vi E)]) (fun O t => match O with | (aN, ai, E, af, ah, v) => loopN (rollin_start_L11 i) aN (ai, E) = some a9 ∧ Ev [] H t ∧ MS t [d, v, [a], e] ∧ FR H.heap.size [d, v, [a]] ∧ SlR (eIt4) t (fl [d, v, [a], e]) o q i ∧ SlR (eInt .i64) t (fl [d, v, [a], e]) x y C ∧ OwnR (eInt .i64) 3 22 t d Q U (List.replicate (Int.toNat n) ([] : List Int)) none ∧ OwnR (eInt .i64) 3 22 t v af ah ai none ∧ t.heap[a]? = some (.cells #[Vl o i q, Vi G, Vi n, Vl x C y, .slice Q ((List.replicate (Int.toNat n) ([] : List Int))).length U, Vl af ai ah, Vi 0, Vi 0] 109 (0, 0))) (fun O => O.1) (aw, ([] : List (List Int)), 0, none, 0, ([] : List Nat)) ⟨R, R, R, R, trivial⟩ ⟨aC, j, b, m, f, h, u, bk, r⟩ ?_)
 rintro ⟨aw, ai, E, af, ah, v⟩ ae bK ⟨au, j, b, m, f, h, u, B, r⟩
 rcases aw with _ | aw
 · exact (loopN_zero au).elim
 obtain ⟨bI, g, au⟩ := bind_some au
 refine c_sp (x_u 1 [(19, .bool (decide (E < ((i).length : Int))))] (x_ek (c_nm [(5, Vp a 0), (16, Vl o i q), (17, Vi ((i).length : Int)), (18, Vi E), (19, .bool (decide (E < ((i).length : Int))))] (fun ae => ?_))))
 refine c_seq (c_if (decide (E < ((i).length : Int))) R g (fun g => ?_) (fun g => ?_))
 · refine c_skip (k_then (c_seq (c_block (c_sp ?_))))
   obtain ⟨s, bt, g⟩ := bind_some g
   obtain ⟨a0, bB, bm, bh, bd⟩ := reads_index (Mo := []) tsl36 f bt
   obtain ⟨_, _, rfl, rfl, ⟨_, _, rfl, rfl, ⟨_, _, rfl, rfl, rfl⟩⟩⟩ := bd
   refine x_indexAddr (xv := Vl o i q) (yv := Vi E) (.pointer (some a0)) R R R R bm (x_load (xv := .pointer (some a0)) (.agg #[Vi s.1, Vi s.2.1, Vi s.2.2.1, Vi s.2.2.2]) R R R (reads_agg tagg76 bh (fun _ g => by cases g)) ?_)
   refine x_alloc (z := .agg #[Vi 0, Vi 0, Vi 0, Vi 0]) R R (by kernel_rfl) (fun p bv aH A aj bD => ?_)
   replace A : bv.heap[p]? = some (.cells #[Vi 0, Vi 0, Vi 0, Vi 0] 76 (0, 0)) := A
   refine inl1 ?_
   have k := Stp.box (ls := [d, v, [a], e]) aj aH
   replace r := aj.box r nn
   replace f := f.step k
   replace h := h.step k
   replace u := u.step (plain_int _) aj nn2
   replace B := B.step (plain_int _) aj nn2
   replace b := b.box aj aH A
   replace m := m.box j.size aH
   replace j := j.ext aj
   obtain ⟨bw, bn, bf, ak⟩ := store_boxagg 0 [Vi s.1, Vi s.2.1, Vi s.2.2.1, Vi s.2.2.2] #[Vi s.1, Vi s.2.1, Vi s.2.2.1, Vi s.2.2.2] tagg76 A R R R
   refine x_store bw (xv := Vp p 0) (yv := .agg #[Vi s.1, Vi s.2.1, Vi s.2.2.1, Vi s.2.2.2]) R R R R bn (inl1 ?_)
   have k := Stp.ev' (ls := [[p], d, v, [a], e]) ak (mem_flat 0 R)
   replace r := ak.box r (b.apart 3 0 R R R _ mem1)
   replace f := f.step k
   replace h := h.step k
   replace u := u.step (plain_int _) ak (b.apart 1 0 R R R)
   replace B := B.step (plain_int _) ak (b.apart 2 0 R R R)
   replace b := b.ev ak
   replace j := j.then ak (fun I J => .inr (m.at 0 R I J))
   replace A := bf
   refine x_ek (c_block ?_)
   have Z := b.pick [some 1, some 2, some 3, some 0, some 4] [d, v, [a], [p], e] R
   have F := pick_sub (ls := [[p], d, v, [a], e]) [some 1, some 2, some 3, some 0, some 4] [d, v, [a], [p], e] R
   replace f := f.sub F
   replace h := h.sub F
   replace b := Z
   replace m := m.pick [some 1, some 2, some 3, some 0] [d, v, [a], [p]] R
   clear Z F
   obtain ⟨ba, aD, bc⟩ := bind_some g
   obtain ⟨ax, aD⟩ := loop_some aD
   refine c_loop (loop_rule hmx (σ := Nat × (List (List Int)) × Option Addr × Nat × List Nat) (fun O => match O with | (_, w, X, Y, D) => [(5, Vp a 0), (7, Vp p 0), (16, Vl o i q), (17, Vi ((i).length : Int)), (18, Vi E)]) (fun O t => match O with | (aN, w, X, Y, D) => loopN (rollin_start_L20 s) aN w = some ba ∧ Ev [] H t ∧ MS t [d, D, [a], [p], e] ∧ FR H.heap.size [d, D, [a], [p]] ∧ SlR (eIt4) t (fl [d, D, [a], [p], e]) o q i ∧ SlR (eInt .i64) t (fl [d, D, [a], [p], e]) x y C ∧ OwnR (eInt .i64) 3 22 t d Q U (List.replicate (Int.toNat n) ([] : List Int)) none ∧ OwnR (eInt .i64) 3 22 t D X Y w none ∧ t.heap[a]? = some (.cells #[Vl o i q, Vi G, Vi n, Vl x C y, .slice Q ((List.replicate (Int.toNat n) ([] : List Int))).length U, Vl X w Y, Vi 0, Vi 0] 109 (0, 0)) ∧ t.heap[p]? = some (.cells #[Vi s.1, Vi s.2.1, Vi s.2.2.1, Vi s.2.2.2] 76 (0, 0))) (fun O => O.1) (ax, ai, af, ah, v) ⟨R, R, R, R, R, trivial⟩ ⟨aD, j, b, m, f, h, u, B, r, A⟩ ?_)
   rintro ⟨ax, w, X, Y, D⟩ ae aa ⟨av, j, b, m, f, h, u, B, r, A⟩
   rcases ax with _ | ax
   · exact (loopN_zero av).elim
   obtain ⟨bJ, g, av⟩ := bind_some av
   refine c_seq (c_seq (c_drawn [] [(0, false), (1, false), (2, false), (3, false), (4, false), (5, false), (6, false), (7, false)] _ (by kernel_rfl) R ?_))
   have k := Stp.ext (ls := [d, D, [a], [p], e]) (Ev.drew aa)
   replace r := (Ev.drew aa).box r nn
   replace f := f.step k
   replace h := h.step k
   replace u := u.step (plain_int _) (Ev.drew aa) nn2
   replace B := B.step (plain_int _) (Ev.drew aa) nn2
   replace A := (Ev.drew aa).box A nn
   replace b := b.ev (Ev.drew aa)
   replace j := j.ext (Ev.drew aa)
   refine x_u 2 [(22, Vp a 0), (23, Vp a 0)] (x_fieldAddr (xv := Vp a 0) (Vp a 5) R R R (reads_field tfld109_3 _ _) (x_load (xv := Vp a 5) (Vl X w Y) R R R (reads_box tcell57 r nn 5 _ R) (x_len (vs := [Vl X w Y]) (Vi ((w).length : Int)) R R R (reads_len tsl57 _ _ _ _ _) (x_fieldAddr (xv := Vp p 0) (Vp p 0) R R R (reads_field tfld76_0 _ _) (x_load (xv := Vp p 0) (Vi s.1) R R R (reads_box tcell3 A nn 0 _ R) (x_u 1 [(29, .bool (decide (((w).length : Int) ≤ s.1)))] (x_ek (c_nm [(5, Vp a 0), (7, Vp p 0), (16, Vl o i q), (17, Vi ((i).length : Int)), (18, Vi E), (29, .bool (decide (((w).length : Int) ≤ s.1)))] (fun ae => ?_)))))))))
   refine c_if (decide (((w).length : Int) ≤ s.1)) R g (fun g => ?_) (fun g => ?_)
   · refine c_skip (k_then (c_block (c_plain (x_u 3 [(30, Vp a 0), (31, Vp a 0), (32, Vp a 0)] (x_fieldAddr (xv := Vp a 0) (Vp a 5) R R R (reads_field tfld109_3 _ _) (x_load (xv := Vp a 5) (Vl X w Y) R R R (reads_box tcell57 r nn 5 _ R) (x_buildSlice (vs := [(0, .slice none 0 0)]) #[.slice none 0 0] 22 R R R (by kernel_rfl) (fun a1 aO bl a6 ac bE => ?_))))))))
     refine inl1 ?_
     have a8 := b
     have k := Stp.ext (ls := [d, D, [a], [p], e]) ac
     replace r := ac.box r nn
     replace f := f.step k
     replace h := h.step k
     replace u := u.step (plain_int _) ac nn2
     replace B := B.step (plain_int _) ac nn2
     replace A := ac.box A nn
     replace b := b.ev ac
     replace j := j.ext ac
     have br : SlR eHdr aO (fl [d, D, [a], [p], e]) (Ad a1 0) 1 ([(none, 0, 0)] : List (Option Addr × Nat × Nat)) := ro_of_box a8 bl a6 R R (cells_at (cs := [.slice none 0 0]) (CellsOf.cons (c := [.slice none 0 0]) R CellsOf.nil))
     clear a6 a8
     have aB := guard_l g
     replace g := guard_r g
     obtain ⟨ay, az, aQ, ao, bo, al, bC, aF, be⟩ := OwnR.app (P := Tryz.prog) (plain_int _) tel57 57 B br (mem_flat 1 R) (OwnS.nil (eInt .i64) 3 aO []) (fun bL bs => by cases bs) (b.ltat 1 R) aB
     refine x_builtin (vs := [Vl X w Y, .slice (Ad a1 0) (([(none, 0, 0)] : List (Option Addr × Nat × Nat))).length 1]) _ aQ R R R R (run_value _ _ _ _ bo) (inl1 ?_)
     have k : Stp (fl [d, D, [a], [p], e]) aO (fl [d, ao, [a], [p], e]) aQ := Stp.upd 1 al R (fun I J => (aF I J).1)
     replace r := al.box r (b.apart 2 1 R R R _ mem1)
     replace f := f.step k
     replace h := h.step k
     replace u := u.step (plain_int _) al (b.apart 0 1 R R R)
     replace A := al.box A (b.apart 3 1 R R R _ mem1)
     replace b : MS aQ [d, ao, [a], [p], e] := b.upd 1 al R aF
     have a7 : FR H.heap.size [d, ao, [a], [p]] := m.upd 1 R j.size (fun I J => (aF I J).1)
     replace j := j.then al (fun I J => .inr (m.at 1 R I J))
     replace m := a7
     clear a7
     replace B := be
     refine x_u 1 [(37, Vp a 0)] (x_fieldAddr (xv := Vp a 0) (Vp a 5) R R R (reads_field tfld109_3 _ _) ?_)
     obtain ⟨bx, bp, bg, am⟩ := store_box 5 (.slice ay ((w ++ [([] : List Int)])).length az) #[Vl o i q, Vi G, Vi n, Vl x C y, .slice Q ((List.replicate (Int.toNat n) ([] : List Int))).length U, .slice ay ((w ++ [([] : List Int)])).length az, Vi 0, Vi 0] tcell57 r R R R
     refine x_store bx (xv := Vp a 5) (yv := .slice ay ((w ++ [([] : List Int)])).length az) R R R R bp (inl1 ?_)
     have k := Stp.ev' (ls := [d, ao, [a], [p], e]) am (mem_flat 2 R)
     replace f := f.step k
     replace h := h.step k
     replace u := u.step (plain_int _) am (b.apart 0 2 R R R)
     replace B := B.step (plain_int _) am (b.apart 1 2 R R R)
     replace A := am.box A (b.apart 3 2 R R R _ mem1)
     replace b := b.ev am
     replace j := j.then am (fun I J => .inr (m.at 2 R I J))
     replace r := bg
     refine x_end R (k_block ?_)
     obtain rfl := some_inj g
     exact k_then ⟨(ax, (w ++ [([] : List Int)]), ay, az, ao), ⟨R, R, R, R, R, trivial⟩, ⟨av, j, b, m, f, h, u, B, r, A⟩, Nat.lt_succ_self _⟩
   refine c_exit (k_then_exit ?_)
   obtain rfl := some_inj g
   have aL := some_inj av
   subst aL
   replace g := bc
   refine k_then_exit (k_block_in (k_block (k_then (c_nm [(5, Vp a 0), (16, Vl o i q), (17, Vi ((i).length : Int)), (18, Vi E)] (fun ae => ?_)))))
   refine c_plain (x_u 2 [(39, Vi (i64.wrap (E + 1))), (18, Vi (i64.wrap (E + 1)))] (x_end R ?_))
   obtain rfl := some_inj g
   have Z : MS (aa).drew [d, D, [a], e] := b.pick [some 0, some 1, some 2, some 4] _ R
   have F := pick_sub (ls := [d, D, [a], [p], e]) [some 0, some 1, some 2, some 4] [d, D, [a], e] R
   replace f := f.sub F
   replace h := h.sub F
   replace b := Z
   replace m := m.pick [some 0, some 1, some 2] [d, D, [a]] R
   clear Z F
   exact k_then ⟨(aw, w, i64.wrap (E + 1), X, Y, D), ⟨R, R, R, R, trivial⟩, ⟨au, j, b, m, f, h, u, B, r⟩, Nat.lt_succ_self _⟩
 refine c_exit (k_then_exit ?_)
 obtain rfl := some_inj g
 have aL := some_inj au
 subst aL
 replace g := bb
 refine k_then_exit (k_block_in (k_then (c_nm [(5, Vp a 0)] (fun ae => ?_))))
 refine c_sp (x_u 2 [(40, Vp a 0), (4, Vp a 0)] (x_ek (c_ret (r_ret (r_vals [Vp a 0] ⟨R, trivial⟩ ?_)))))
 obtain rfl := some_inj g
 have bj := b.pick [some 2, some 0, some 1, some 3] [[a], d, v, e] R
 have F := pick_sub (ls := [d, v, [a], e]) [some 2, some 0, some 1, some 3] [[a], d, v, e] R
 have bi := m.pick [some 2, some 0, some 1] [[a], d, v] R
 exact ⟨a, o, q, x, y, Q, U, d, af, ah, v, R, j, bj, bi, r, f.sub F, h.sub F, u, B⟩
def rollin_machine_push_L8 (e : Int) (f : List Int) (b : List (List Int)) (c : Int) (g : Int) : Option (Step Int ((List (List Int)) ⊕ Unit)) :=
match g with
| a =>
(if (decide (a < e)) = true then
((idx f c).bind fun h =>
(if 0 ≤ a then
(if ((i64.wrap ↑(BitVec.ofInt i64.bits (Int.fdiv h (2 ^ (min (Int.toNat (a)) i64.bits))) &&& BitVec.ofInt i64.bits 1).toNat) == 1) = true then
((idx b a).bind fun d =>
(if d.length + ([c]).length ≤ 4294967296 then
((idx b a).bind fun i =>
some (.done (.inl (b.set (Int.toNat a) (d ++ [c])))))
else none))
else
some (.next (i64.wrap (a + 1))))
else none))
else
some (.done (.inr ())))
def rollin_machine_push (i : List (Int × Int × Int × Int)) (m : Int) (j : Int) (k : List Int) (d : List (List Int)) (a : List (List Int)) (e : Int) (n : Int) (b : Int) (l : Int) : Option (Int × (List (List Int)) × (List (List Int))) :=
((loop (rollin_machine_push_L8 j k d b) l).bind fun g => match g with
| (.inl h) => some (i64.wrap (e + 1), h, a)
| (.inr _) => ((idx i b).bind fun c =>
((idx a c.1).bind fun f =>
(if f.length + ([b]).length ≤ 4294967296 then
((idx a c.1).bind fun o =>
some (i64.wrap (e + 1), d, (a.set (Int.toNat c.1) (f ++ [b]))))
else none))))
theorem rollin_machine_push_w (a : Nat) (Q : Option Addr) (U : Nat) (L : List (Int × Int × Int × Int)) (az : Int) (G : Int) (S : Option Addr) (X : Nat) (H : List Int) (s : Option Addr) (v : Nat) (f : List Nat) (x : List (List Int)) (t : Option Addr) (w : Nat) (g : List Nat) (B : List (List Int)) (aa : Int) (aA : Int) (k : Int) (am : Int) (an : Int × (List (List Int)) × (List (List Int))) (p : World) (h : List Nat) (d : MS p [[a], f, g, h]) (aj : SlR (eIt4) p (fl [[a], f, g, h]) Q U L) (ak : SlR (eInt .i64) p (fl [[a], f, g, h]) S X H) (m : OwnR (eInt .i64) 3 22 p f s v x none) (n : OwnR (eInt .i64) 3 22 p g t w B none) (j : p.heap[a]? = some (.cells #[.slice Q (L).length U, Vi az, Vi G, .slice S (H).length X, .slice s (x).length v, .slice t (B).length w, Vi aa, Vi aA] 109 (0, 0))) (b : rollin_machine_push L az G H x B aa aA k am = some an) : CallVC Tryz.prog 116 [Vp a 0, Vi k, Vi am] p fun b9 y => ∃ (a6 : Option Addr), ∃ (bb : Nat), ∃ (aN : List Nat), ∃ (a7 : Option Addr), ∃ (bc : Nat), ∃ (aO : List Nat), b9 = .tuple #[] ∧ Ev (fl [[a], f, g]) p y ∧ y.heap[a]? = some (.cells #[.slice Q (L).length U, Vi az, Vi G, .slice S (H).length X, .slice a6 (an.2.1).length bb, .slice a7 (an.2.2).length bc, Vi an.1, Vi aA] 109 (0, 0)) ∧ OwnR (eInt .i64) 3 22 y aN a6 bb an.2.1 none ∧ OwnR (eInt .i64) 3 22 y aO a7 bc an.2.2 none ∧ MS y [[a], aN, aO, h] ∧ FR p.heap.size [] ∧ NP (fl [[a], f, g]) p.heap.size [[a], aN, aO] := by
 refine calls_vc hmx Tryz.func116 (by kernel_rfl) R (rs := []) R (by kernel_rfl) (args := [Vp a 0, Vi k, Vi am]) R ?_
 have o : Ev (fl [[a], f, g]) p p := Ev.refl _ _
 have aq : FR p.heap.size [] := FR.nil _
 have e : NP (fl [[a], f, g]) p.heap.size [[a], f, g] := NP.init _ _
 refine c_sp (x_u 2 [(8, Vp a 0), (9, Vp a 0)] (x_fieldAddr (xv := Vp a 0) (Vp a 6) R R R (reads_field tfld109_4 _ _) (x_load (xv := Vp a 6) (Vi aa) R R R (reads_box tcell3 j nn 6 _ R) (x_u 2 [(12, Vi (i64.wrap (aa + 1))), (13, Vp a 0)] (x_fieldAddr (xv := Vp a 0) (Vp a 6) R R R (reads_field tfld109_4 _ _) ?_)))))
 obtain ⟨ca, bZ, bA, ap⟩ := store_box 6 (Vi (i64.wrap (aa + 1))) #[.slice Q (L).length U, Vi az, Vi G, .slice S (H).length X, .slice s (x).length v, .slice t (B).length w, Vi (i64.wrap (aa + 1)), Vi aA] tcell3 j R R R
 refine x_store ca (xv := Vp a 6) (yv := Vi (i64.wrap (aa + 1))) R R R R bZ (inl1 ?_)
 have al := Stp.ev' (ls := [[a], f, g, h]) ap (mem_flat 0 R)
 replace aj := aj.step al
 replace ak := ak.step al
 replace m := m.step (plain_int _) ap (d.apart 1 0 R R R)
 replace n := n.step (plain_int _) ap (d.apart 2 0 R R R)
 replace d := d.ev ap
 replace o := o.then ap (e.at 0 R)
 replace j := bA
 refine x_ek (c_seq (c_sp (x_u 2 [(15, Vi am), (6, Vi am)] (x_ek (c_block ?_)))))
 obtain ⟨bu, aS, bj⟩ := bind_some b
 obtain ⟨ay, aS⟩ := loop_some aS
 refine c_loop (loop_rule hmx (σ := Nat × Int) (fun aB => match aB with | (_, l) => [(0, Vp a 0), (1, Vi k), (6, Vi l)]) (fun aB y => match aB with | (b8, l) => loopN (rollin_machine_push_L8 G H x k) b8 l = some bu ∧ Ev (fl [[a], f, g]) p y ∧ MS y [[a], f, g, h] ∧ FR p.heap.size [] ∧ NP (fl [[a], f, g]) p.heap.size [[a], f, g] ∧ SlR (eIt4) y (fl [[a], f, g, h]) Q U L ∧ SlR (eInt .i64) y (fl [[a], f, g, h]) S X H ∧ OwnR (eInt .i64) 3 22 y f s v x none ∧ OwnR (eInt .i64) 3 22 y g t w B none ∧ y.heap[a]? = some (.cells #[.slice Q (L).length U, Vi az, Vi G, .slice S (H).length X, .slice s (x).length v, .slice t (B).length w, Vi (i64.wrap (aa + 1)), Vi aA] 109 (0, 0))) (fun aB => aB.1) (ay, am) ⟨R, R, R, trivial⟩ ⟨aS, o, d, aq, e, aj, ak, m, n, j⟩ ?_)
 rintro ⟨ay, l⟩ aE I ⟨ai, o, d, aq, e, aj, ak, m, n, j⟩
 rcases ay with _ | ay
 · exact (loopN_zero ai).elim
 obtain ⟨cl, b, ai⟩ := bind_some ai
 refine c_seq (c_sp (x_u 3 [(16, Vi l), (17, Vp a 0), (18, Vp a 0)] (x_fieldAddr (xv := Vp a 0) (Vp a 2) R R R (reads_field tfld109_1 _ _) (x_fieldAddr (xv := Vp a 2) (Vp a 2) R R R (reads_field tfld52_0 _ _) (x_load (xv := Vp a 2) (Vi G) R R R (reads_box tcell3 j nn 2 _ R) (x_u 1 [(22, .bool (decide (l < G)))] (x_ek (c_nm [(0, Vp a 0), (1, Vi k), (6, Vi l), (22, .bool (decide (l < G)))] (fun aE => ?_)))))))))
 refine c_if (decide (l < G)) R b (fun b => ?_) (fun b => ?_)
 · refine c_skip (k_then (c_seq (c_block (c_sp (x_u 2 [(25, Vp a 0), (26, Vp a 0)] (x_fieldAddr (xv := Vp a 0) (Vp a 2) R R R (reads_field tfld109_1 _ _) (x_fieldAddr (xv := Vp a 2) (Vp a 3) R R R (reads_field tfld52_1 _ _) (x_load (xv := Vp a 3) (.slice S (H).length X) R R R (reads_box tcell22 j nn 3 _ R) (x_u 1 [(30, Vi k)] ?_)))))))))
   obtain ⟨ao, b0, b⟩ := bind_some b
   obtain ⟨a8, cb, bJ, bB, aQ⟩ := reads_index (Mo := []) tsl22 ak b0
   obtain rfl := aQ
   refine x_indexAddr (xv := .slice S (H).length X) (yv := Vi k) (.pointer (some a8)) R R R R bJ (x_load (xv := .pointer (some a8)) (Vi ao) R R R (reads_cell0 tcell3 bB (fun _ b => by cases b)) ?_)
   refine x_u 1 [(33, Vi l)] (x_binop (Vi (Int.fdiv ao (2 ^ (min (Int.toNat (l)) i64.bits)))) (Vi ao) (Vi l) R R R R (vb_shr (guard_l b)) ?_)
   replace b := guard_r b
   refine x_u 2 [(35, Vi (i64.wrap ↑(BitVec.ofInt i64.bits (Int.fdiv ao (2 ^ (min (Int.toNat (l)) i64.bits))) &&& BitVec.ofInt i64.bits 1).toNat)), (36, .bool ((i64.wrap ↑(BitVec.ofInt i64.bits (Int.fdiv ao (2 ^ (min (Int.toNat (l)) i64.bits))) &&& BitVec.ofInt i64.bits 1).toNat) == 1))] (x_ek (c_if ((i64.wrap ↑(BitVec.ofInt i64.bits (Int.fdiv ao (2 ^ (min (Int.toNat (l)) i64.bits))) &&& BitVec.ofInt i64.bits 1).toNat) == 1) R b (fun b => ?_) (fun b => ?_)))
   · refine c_seq (c_drawn (innr s f) [(0, false), (1, false), (2, false), (3, false), (4, false), (5, false), (6, false), (7, false), (8, false), (9, false), (10, false), (11, false), (12, true), (13, false), (14, false), (15, true), (16, true)] _ (by kernel_rfl) R ?_)
     replace j := (Ev.drew I).box j nn
     replace m := m.step (plain_int _) (Ev.drew I) nn2
     replace n := n.step (plain_int _) (Ev.drew I) nn2
     replace d := d.ev (Ev.drew I)
     replace o := o.ext (Ev.drew I)
     refine x_u 2 [(37, Vp a 0), (38, Vp a 0)] (x_fieldAddr (xv := Vp a 0) (Vp a 4) R R R (reads_field tfld109_2 _ _) (x_load (xv := Vp a 4) (.slice s (x).length v) R R R (reads_box tcell57 j ((fun r u b => d.apart 0 1 R R R r u (innr_sub _ b)) _ mem1) 4 _ R) (x_u 3 [(41, Vi l), (42, Vp a 0), (43, Vp a 0)] (x_fieldAddr (xv := Vp a 0) (Vp a 4) R R R (reads_field tfld109_2 _ _) (x_load (xv := Vp a 4) (.slice s (x).length v) R R R (reads_box tcell57 j ((fun r u b => d.apart 0 1 R R R r u (innr_sub _ b)) _ mem1) 4 _ R) (x_u 1 [(46, Vi l)] ?_))))))
     obtain ⟨aK, b1, b⟩ := bind_some b
     obtain ⟨bf, ab, bd, bK, Y⟩ := OwnR.view (P := Tryz.prog) (Mo := (innr s f)) tsl57 m b1
     refine x_indexAddr (xv := .slice s (x).length v) (yv := Vi l) (.pointer (some ⟨bf, (Int.toNat l), none⟩)) R R R R bK (x_load (xv := .pointer (some ⟨bf, (Int.toNat l), none⟩)) (.slice ab (aK).length bd) R R R (RView.loadI tcell22 Y) (x_u 1 [(49, Vi k)] (x_buildSlice (vs := [(0, Vi k)]) #[Vi k] 3 R R R (by kernel_rfl) (fun a9 a4 bH bk ad cj => ?_))))
     refine ⟨.inr (ad.nil), ?_⟩
     have ar := d
     replace j := ad.box j nn
     replace m := m.step (plain_int _) ad nn2
     replace n := n.step (plain_int _) ad nn2
     replace Y := Y.step (plain_int _) ad nn2
     replace d := d.ev ad
     replace o := o.ext ad
     have a1 : SlR (eInt .i64) a4 (fl [[a], f, g, h]) (Ad a9 0) 1 ([k]) := ro_of_box ar bH bk R R (cells_at (cs := [Vi k]) (CellsOf.cons (c := [Vi k]) R CellsOf.nil))
     clear bk ar
     have bF := RView.inner Y m
     obtain ⟨z, bv, au, J, K, aw⟩ := OwnR.opn m Y
     replace m := bv
     have D := d.split 1 R K J aw
     have ax : ∀ r ∈ fl [blk ab, [a], z, g, h], r ∈ fl [[a], f, g, h] := fun r u => split_sub (ls := [[a], f, g, h]) 1 R K J r (pick_sub [some 0, some 1, some 2, some 3, some 4] _ R r u)
     replace d : MS a4 [blk ab, [a], z, g, h] := D.pick [some 0, some 1, some 2, some 3, some 4] _ R
     replace e : NP (fl [[a], f, g]) p.heap.size [blk ab, [a], z, g] := (NP.cons (fun i q => e.at 1 R i (K i q)) (NP.cons (e.at 0 R) (NP.cons (fun i q => e.at 1 R i (J i q)) (NP.cons (e.at 2 R) (NP.nil _ _)))))
     replace a1 := a1.sub ax
     replace au := OwnS.plain (M' := fl [blk ab, [a], z, g, h]) (plain_int _) au
     have cd := Y.eq
     have ch := Y.at_
     clear Y D J K aw ax
     have aX := guard_l b
     replace b := guard_r b
     obtain ⟨N, bs, aI, bL, ae, aZ, cf, bo⟩ := own_appendN tel22 22 au (mem_flat 0 R) a1 aX
     refine x_builtin (vs := [.slice ab (aK).length bd, .slice (Ad a9 0) ([k]).length 1]) _ aI R R R R (run_value _ _ _ _ bL) (⟨.inr (ae.sub bF), ?_⟩)
     have al : Stp (fl [blk ab, [a], z, g, h]) a4 (fl [blk N, [a], z, g, h]) aI := Stp.upd 0 ae R (fun i q => (aZ i q).1)
     replace j := ae.box j (d.apart 1 0 R R R _ mem1)
     replace m := m.step (plain_int _) ae (d.apart 2 0 R R R)
     replace n := n.step (plain_int _) ae (d.apart 3 0 R R R)
     replace d : MS aI [blk N, [a], z, g, h] := d.upd 0 ae R aZ
     have E : NP (fl [[a], f, g]) p.heap.size [blk N, [a], z, g] := (NP.cons (fun i q => (aZ i q).1.elim (fun b => e.at 0 R i b) (fun b => .inr (Nat.le_trans o.size b))) (NP.cons (e.at 1 R) (NP.cons (e.at 2 R) (NP.cons (e.at 3 R) (NP.nil _ _)))))
     replace o := o.then ae (e.at 0 R)
     replace e := E
     clear E
     replace au := bo (fl [blk N, [a], z, g, h]) al.new
     clear bo
     obtain ⟨cm, b2, b⟩ := bind_some b
     obtain ⟨bg, bD, bN, b6⟩ := OwnR.addr (P := Tryz.prog) (Mo := []) tsl57 m b2
     refine x_indexAddr (xv := .slice s (x).length v) (yv := Vi l) (.pointer (some ⟨bg, (Int.toNat l), none⟩)) R R R R bN ?_
     obtain ⟨bq, aC, bO, aG, bm, bw⟩ := OwnR.cls (P := Tryz.prog) (plain_int _) tcell22 m bD b6 au (d.apart 0 2 R R R) (d.ltat 2 R)
     refine x_store bq (xv := .pointer (some ⟨bg, (Int.toNat l), none⟩)) (yv := .slice N ((aK ++ [k])).length bs) R R R R bO (inl1 ?_)
     have D := d.merge (C := blk N ++ z) 0 2 R R (fun r u => List.mem_append.1 u)
     replace e : NP (fl [[a], f, g]) p.heap.size [[a], blk N ++ z, g] := (NP.cons (e.at 1 R) (NP.cons (fun i q => (List.mem_append.1 q).elim (fun b => e.at 0 R i b) (e.at 2 R i)) (NP.cons (e.at 3 R) (NP.nil _ _))))
     replace d : MS aI [[a], blk N ++ z, g, h] := D
     clear D
     replace j := aG.box j (d.apart 0 1 R R R _ mem1)
     replace n := n.step (plain_int _) aG (d.apart 2 1 R R R)
     replace d : MS bq [[a], aC, g, h] := d.upd 1 aG R bm
     have E : NP (fl [[a], f, g]) p.heap.size [[a], aC, g] := (NP.cons (e.at 0 R) (NP.cons (fun i q => (bm i q).1.elim (fun b => e.at 1 R i b) (fun b => .inr (Nat.le_trans o.size b))) (NP.cons (e.at 2 R) (NP.nil _ _))))
     replace o := o.then aG (e.at 1 R)
     replace e := E
     clear E
     replace m := bw
     have ah : (Value.slice s (x).length v) = (Value.slice s ((x.set (Int.toNat l) (aK ++ [k]))).length v) := by first | (rw [List.length_set]; done) | simp only [List.length_set]
     rw [ah] at j
     try rw [ah]
     clear ah
     refine x_ek (c_norm [] trivial (fun aE => ?_))
     refine c_ret (k_block_ret (k_then_ret ?_))
     obtain rfl := some_inj b
     have a3 := some_inj ai
     subst a3
     replace b := bj
     refine k_then_ret (k_block_ret (k_then_ret (r_ret (r_vals [] trivial ?_))))
     obtain rfl := some_inj b
     have aY := d.pick [some 0, some 1, some 2, some 3] [[a], aC, g, h] R
     have aU := aq.pick [] [] R
     exact ⟨s, v, aC, t, w, g, R, o, j, m, n, aY, aU, (NP.cons (e.at 0 R) (NP.cons (e.at 1 R) (NP.cons (e.at 2 R) (NP.nil _ _))))⟩
   refine c_skip (k_block (k_then (c_nm [(0, Vp a 0), (1, Vi k), (6, Vi l)] (fun aE => ?_))))
   refine c_plain (x_u 3 [(23, Vi l), (24, Vi (i64.wrap (l + 1))), (6, Vi (i64.wrap (l + 1)))] (x_end R ?_))
   obtain rfl := some_inj b
   exact k_then ⟨(ay, i64.wrap (l + 1)), ⟨R, R, R, trivial⟩, ⟨ai, o, d, aq, e, aj, ak, m, n, j⟩, Nat.lt_succ_self _⟩
 refine c_exit (k_then_exit ?_)
 obtain rfl := some_inj b
 have a3 := some_inj ai
 subst a3
 replace b := bj
 refine k_then_exit (k_block_in (k_then (c_nm [(0, Vp a 0), (1, Vi k)] (fun aE => ?_))))
 refine c_sp (x_u 2 [(53, Vp a 0), (54, Vp a 0)] (x_fieldAddr (xv := Vp a 0) (Vp a 0) R R R (reads_field tfld109_0 _ _) (x_fieldAddr (xv := Vp a 0) (Vp a 0) R R R (reads_field tfld50_0 _ _) (x_load (xv := Vp a 0) (.slice Q (L).length U) R R R (reads_box tcell36 j nn 0 _ R) (x_u 1 [(58, Vi k)] ?_)))))
 obtain ⟨F, b3, b⟩ := bind_some b
 obtain ⟨aF, cc, bQ, bC, aQ⟩ := reads_index (Mo := []) tsl36 aj b3
 obtain ⟨_, _, rfl, rfl, ⟨_, _, rfl, rfl, ⟨_, _, rfl, rfl, rfl⟩⟩⟩ := aQ
 refine x_indexAddr (xv := .slice Q (L).length U) (yv := Vi k) (.pointer (some aF)) R R R R bQ (x_fieldAddr (xv := .pointer (some aF)) (.pointer (some (Addr.add aF 0))) R R R (reads_field tfld76_0 _ _) (x_load (xv := .pointer (some (Addr.add aF 0))) (Vi F.1) R R R (reads_cell tcell3 bC (fun _ b => by cases b) 0 _ R) ?_))
 refine x_u 1 [(7, Vi F.1)] (x_ek (c_drawn (innr t g) [(0, false), (1, false), (2, false), (3, false), (4, false), (5, false), (6, false), (7, false), (8, false), (9, false), (10, false), (11, false), (12, true), (13, false), (14, false), (15, true), (16, true)] _ (by kernel_rfl) R ?_))
 replace j := (Ev.drew I).box j nn
 replace m := m.step (plain_int _) (Ev.drew I) nn2
 replace n := n.step (plain_int _) (Ev.drew I) nn2
 replace d := d.ev (Ev.drew I)
 replace o := o.ext (Ev.drew I)
 refine x_u 2 [(62, Vp a 0), (63, Vp a 0)] (x_fieldAddr (xv := Vp a 0) (Vp a 5) R R R (reads_field tfld109_3 _ _) (x_load (xv := Vp a 5) (.slice t (B).length w) R R R (reads_box tcell57 j ((fun r u b => d.apart 0 2 R R R r u (innr_sub _ b)) _ mem1) 5 _ R) (x_u 3 [(66, Vi F.1), (67, Vp a 0), (68, Vp a 0)] (x_fieldAddr (xv := Vp a 0) (Vp a 5) R R R (reads_field tfld109_3 _ _) (x_load (xv := Vp a 5) (.slice t (B).length w) R R R (reads_box tcell57 j ((fun r u b => d.apart 0 2 R R R r u (innr_sub _ b)) _ mem1) 5 _ R) (x_u 1 [(71, Vi F.1)] ?_))))))
 obtain ⟨aL, b4, b⟩ := bind_some b
 obtain ⟨bh, ac, be, bS, Z⟩ := OwnR.view (P := Tryz.prog) (Mo := (innr t g)) tsl57 n b4
 refine x_indexAddr (xv := .slice t (B).length w) (yv := Vi F.1) (.pointer (some ⟨bh, (Int.toNat F.1), none⟩)) R R R R bS (x_load (xv := .pointer (some ⟨bh, (Int.toNat F.1), none⟩)) (.slice ac (aL).length be) R R R (RView.loadI tcell22 Z) (x_u 1 [(74, Vi k)] (x_buildSlice (vs := [(0, Vi k)]) #[Vi k] 3 R R R (by kernel_rfl) (fun ba a5 bI bl af ck => ?_))))
 refine ⟨.inr (af.nil), ?_⟩
 have ar := d
 replace j := af.box j nn
 replace m := m.step (plain_int _) af nn2
 replace n := n.step (plain_int _) af nn2
 replace Z := Z.step (plain_int _) af nn2
 replace d := d.ev af
 replace o := o.ext af
 have a2 : SlR (eInt .i64) a5 (fl [[a], f, g, h]) (Ad ba 0) 1 ([k]) := ro_of_box ar bI bl R R (cells_at (cs := [Vi k]) (CellsOf.cons (c := [Vi k]) R CellsOf.nil))
 clear bl ar
 have bG := RView.inner Z n
 obtain ⟨A, bx, av, J, K, aw⟩ := OwnR.opn n Z
 replace n := bx
 have D := d.split 2 R K J aw
 have ax : ∀ r ∈ fl [blk ac, [a], f, A, h], r ∈ fl [[a], f, g, h] := fun r u => split_sub (ls := [[a], f, g, h]) 2 R K J r (pick_sub [some 0, some 1, some 2, some 3, some 4] _ R r u)
 replace d : MS a5 [blk ac, [a], f, A, h] := D.pick [some 0, some 1, some 2, some 3, some 4] _ R
 replace e : NP (fl [[a], f, g]) p.heap.size [blk ac, [a], f, A] := (NP.cons (fun i q => e.at 2 R i (K i q)) (NP.cons (e.at 0 R) (NP.cons (e.at 1 R) (NP.cons (fun i q => e.at 2 R i (J i q)) (NP.nil _ _)))))
 replace a2 := a2.sub ax
 replace av := OwnS.plain (M' := fl [blk ac, [a], f, A, h]) (plain_int _) av
 have ce := Z.eq
 have ci := Z.at_
 clear Z D J K aw ax
 have aX := guard_l b
 replace b := guard_r b
 obtain ⟨O, bt, aJ, bU, ag, a0, cg, bp⟩ := own_appendN tel22 22 av (mem_flat 0 R) a2 aX
 refine x_builtin (vs := [.slice ac (aL).length be, .slice (Ad ba 0) ([k]).length 1]) _ aJ R R R R (run_value _ _ _ _ bU) (⟨.inr (ag.sub bG), ?_⟩)
 have al : Stp (fl [blk ac, [a], f, A, h]) a5 (fl [blk O, [a], f, A, h]) aJ := Stp.upd 0 ag R (fun i q => (a0 i q).1)
 replace j := ag.box j (d.apart 1 0 R R R _ mem1)
 replace m := m.step (plain_int _) ag (d.apart 2 0 R R R)
 replace n := n.step (plain_int _) ag (d.apart 3 0 R R R)
 replace d : MS aJ [blk O, [a], f, A, h] := d.upd 0 ag R a0
 have E : NP (fl [[a], f, g]) p.heap.size [blk O, [a], f, A] := (NP.cons (fun i q => (a0 i q).1.elim (fun b => e.at 0 R i b) (fun b => .inr (Nat.le_trans o.size b))) (NP.cons (e.at 1 R) (NP.cons (e.at 2 R) (NP.cons (e.at 3 R) (NP.nil _ _)))))
 replace o := o.then ag (e.at 0 R)
 replace e := E
 clear E
 replace av := bp (fl [blk O, [a], f, A, h]) al.new
 clear bp
 obtain ⟨cn, b5, b⟩ := bind_some b
 obtain ⟨bi, bE, bX, b7⟩ := OwnR.addr (P := Tryz.prog) (Mo := []) tsl57 n b5
 refine x_indexAddr (xv := .slice t (B).length w) (yv := Vi F.1) (.pointer (some ⟨bi, (Int.toNat F.1), none⟩)) R R R R bX ?_
 obtain ⟨br, aD, bY, aH, bn, bz⟩ := OwnR.cls (P := Tryz.prog) (plain_int _) tcell22 n bE b7 av (d.apart 0 3 R R R) (d.ltat 3 R)
 refine x_store br (xv := .pointer (some ⟨bi, (Int.toNat F.1), none⟩)) (yv := .slice O ((aL ++ [k])).length bt) R R R R bY (inl1 ?_)
 have D := d.merge (C := blk O ++ A) 0 3 R R (fun r u => List.mem_append.1 u)
 replace e : NP (fl [[a], f, g]) p.heap.size [[a], f, blk O ++ A] := (NP.cons (e.at 1 R) (NP.cons (e.at 2 R) (NP.cons (fun i q => (List.mem_append.1 q).elim (fun b => e.at 0 R i b) (e.at 3 R i)) (NP.nil _ _))))
 replace d : MS aJ [[a], f, blk O ++ A, h] := D
 clear D
 replace j := aH.box j (d.apart 0 2 R R R _ mem1)
 replace m := m.step (plain_int _) aH (d.apart 1 2 R R R)
 replace d : MS br [[a], f, aD, h] := d.upd 2 aH R bn
 have E : NP (fl [[a], f, g]) p.heap.size [[a], f, aD] := (NP.cons (e.at 0 R) (NP.cons (e.at 1 R) (NP.cons (fun i q => (bn i q).1.elim (fun b => e.at 2 R i b) (fun b => .inr (Nat.le_trans o.size b))) (NP.nil _ _))))
 replace o := o.then aH (e.at 2 R)
 replace e := E
 clear E
 replace n := bz
 have ah : (Value.slice t (B).length w) = (Value.slice t ((B.set (Int.toNat F.1) (aL ++ [k]))).length w) := by first | (rw [List.length_set]; done) | simp only [List.length_set]
 rw [ah] at j
 try rw [ah]
 clear ah
 refine x_end R (r_normal (r_vals [] trivial ?_))
 obtain rfl := some_inj b
 have aY := d.pick [some 0, some 1, some 2, some 3] [[a], f, aD, h] R
 have aU := aq.pick [] [] R
 exact ⟨s, v, f, t, w, aD, R, o, j, m, n, aY, aU, (NP.cons (e.at 0 R) (NP.cons (e.at 1 R) (NP.cons (e.at 2 R) (NP.nil _ _))))⟩
def rollin_machine_at_L21 (e : List (Int × Int × Int × Int)) (h : Int) (i : Int) (j : List Int) (k : Int) (g : Int) (l : (List (List Int)) × (List (List Int)) × Int × Int) : Option (Step ((List (List Int)) × (List (List Int)) × Int × Int) ((List (List Int)) × (List (List Int)) × Int)) :=
match l with
| (b, c, d, a) =>
(if (decide (a < ((e).length : Int))) = true then
((idx e a).bind fun m =>
(if (m.2.2.1 == g) = true then
((rollin_machine_push e h i j b c d k a g).bind fun f =>
some (.next (f.2.1, f.2.2, f.1, i64.wrap (a + 1))))
else
some (.next (b, c, d, i64.wrap (a + 1)))))
else
some (.done (b, c, d)))
def rollin_machine_at_J6 (i : List (Int × Int × Int × Int)) (j : Int) (k : Int) (l : List Int) (m : Int) (b : Int) (n : Int) (f : List (List Int)) (g : List (List Int)) (h : Int) : Option (Int × Int × (List (List Int)) × (List (List Int))) :=
((loop (rollin_machine_at_L21 i j k l b n) (f, g, h, 0)).bind fun e => match e with
| (c, d, a) => (if (decide (a > m)) = true then
some (a, i64.wrap (b + 1), c, d)
else
some (a, b, c, d)))
def rollin_machine_at_L14 (g : List (Int × Int × Int × Int)) (h : Int) (i : Int) (j : List Int) (k : Int) (l : Int) (f : List Int) (m : (List (List Int)) × (List (List Int)) × Int × Int) : Option (Step ((List (List Int)) × (List (List Int)) × Int × Int) ((List (List Int)) × (List (List Int)) × Int)) :=
match m with
| (c, d, e, a) =>
(if (decide (a < ((f).length : Int))) = true then
((idx f a).bind fun n =>
((rollin_machine_push g h i j c d e k n l).bind fun b =>
some (.next (b.2.1, b.2.2, b.1, i64.wrap (a + 1)))))
else
some (.done (c, d, e)))
def rollin_machine_at (d : List (Int × Int × Int × Int)) (e : Int) (f : Int) (g : List Int) (b : List (List Int)) (i : List (List Int)) (c : Int) (h : Int) (a : Int) : Option (Int × Int × (List (List Int)) × (List (List Int))) :=
(if (decide (a > 0)) = true then
((idx b (i64.wrap (a - 1))).bind fun n =>
((idx b (i64.wrap (a - 1))).bind fun o =>
((loop (rollin_machine_at_L14 d e f g h a n) ((b.set (Int.toNat (i64.wrap (a - 1))) ([] : List Int)), i, c, 0)).bind fun j => match j with
| (k, l, m) => rollin_machine_at_J6 d e f g c h a k l m)))
else
rollin_machine_at_J6 d e f g c h a b i c)
theorem rollin_machine_at_w (a : Nat) (E : Option Addr) (F : Nat) (r : List (Int × Int × Int × Int)) (Z : Int) (aa : Int) (X : Option Addr) (Y : Nat) (K : List Int) (ae : Option Addr) (af : Nat) (x : List Nat) (ab : List (List Int)) (bf : Option Addr) (bg : Nat) (i : List Nat) (bc : List (List Int)) (G : Int) (O : Int) (g : Int) (aw : Int × Int × (List (List Int)) × (List (List Int))) (l : World) (c : List Nat) (d : MS l [[a], x, i, c]) (q : SlR (eIt4) l (fl [[a], x, i, c]) E F r) (u : SlR (eInt .i64) l (fl [[a], x, i, c]) X Y K) (w : OwnR (eInt .i64) 3 22 l x ae af ab none) (A : OwnR (eInt .i64) 3 22 l i bf bg bc none) (p : l.heap[a]? = some (.cells #[.slice E (r).length F, Vi Z, Vi aa, .slice X (K).length Y, .slice ae (ab).length af, .slice bf (bc).length bg, Vi G, Vi O] 109 (0, 0))) (b : rollin_machine_at r Z aa K ab bc G O g = some aw) : CallVC Tryz.prog 86 [Vp a 0, Vi g] l fun bB v => ∃ (bG : Option Addr), ∃ (bJ : Nat), ∃ (bm : List Nat), ∃ (bH : Option Addr), ∃ (bK : Nat), ∃ (bn : List Nat), bB = .tuple #[] ∧ Ev (fl [[a], x, i]) l v ∧ v.heap[a]? = some (.cells #[.slice E (r).length F, Vi Z, Vi aa, .slice X (K).length Y, .slice bG (aw.2.2.1).length bJ, .slice bH (aw.2.2.2).length bK, Vi aw.1, Vi aw.2.1] 109 (0, 0)) ∧ OwnR (eInt .i64) 3 22 v bm bG bJ aw.2.2.1 none ∧ OwnR (eInt .i64) 3 22 v bn bH bK aw.2.2.2 none ∧ MS v [[a], bm, bn, c] ∧ FR l.heap.size [] ∧ NP (fl [[a], x, i]) l.heap.size [[a], bm, bn] := by
 refine calls_vc hmx Tryz.func86 (by kernel_rfl) R (rs := []) R (by kernel_rfl) (args := [Vp a 0, Vi g]) R ?_
 have o : Ev (fl [[a], x, i]) l l := Ev.refl _ _
 have C : FR l.heap.size [] := FR.nil _
 have h : NP (fl [[a], x, i]) l.heap.size [[a], x, i] := NP.init _ _
 refine c_sp (x_u 2 [(10, Vp a 0), (11, Vp a 0)] (x_fieldAddr (xv := Vp a 0) (Vp a 6) R R R (reads_field tfld109_4 _ _) (x_load (xv := Vp a 6) (Vi G) R R R (reads_box tcell3 p nn 6 _ R) (x_u 1 [(4, Vi G)] (x_ek (c_join (σ := (List (List Int)) × (List (List Int)) × Int × Option Addr × Nat × List Nat × Option Addr × Nat × List Nat) (fun Q => match Q with | (aH, aI, a2, aY, a0, ao, aZ, a1, ap) => [(0, Vp a 0), (1, Vi g), (4, Vi G)]) (fun Q v => match Q with | (aH, aI, a2, aY, a0, ao, aZ, a1, ap) => rollin_machine_at_J6 r Z aa K G O g aH aI a2 = some aw ∧ Ev (fl [[a], x, i]) l v ∧ MS v [[a], ao, ap, c] ∧ FR l.heap.size [] ∧ NP (fl [[a], x, i]) l.heap.size [[a], ao, ap] ∧ SlR (eIt4) v (fl [[a], ao, ap, c]) E F r ∧ SlR (eInt .i64) v (fl [[a], ao, ap, c]) X Y K ∧ OwnR (eInt .i64) 3 22 v ao aY a0 aH none ∧ OwnR (eInt .i64) 3 22 v ap aZ a1 aI none ∧ v.heap[a]? = some (.cells #[.slice E (r).length F, Vi Z, Vi aa, .slice X (K).length Y, .slice aY (aH).length a0, .slice aZ (aI).length a1, Vi a2, Vi O] 109 (0, 0))) ?_ ?_))))))
 · refine c_sp (x_u 2 [(14, Vi g), (15, .bool (decide (g > 0)))] (x_ek (c_if (decide (g > 0)) R b (fun b => ?_) (fun b => ?_))))
   · refine c_sp (x_u 2 [(16, Vp a 0), (17, Vp a 0)] (x_fieldAddr (xv := Vp a 0) (Vp a 4) R R R (reads_field tfld109_2 _ _) (x_load (xv := Vp a 4) (.slice ae (ab).length af) R R R (reads_box tcell57 p nn 4 _ R) (x_u 2 [(20, Vi g), (21, Vi (i64.wrap (g - 1)))] ?_))))
     obtain ⟨L, cz, b⟩ := bind_some b
     obtain ⟨bN, f, am, cu, ba⟩ := OwnR.view (P := Tryz.prog) (Mo := []) tsl57 w cz
     refine x_indexAddr (xv := .slice ae (ab).length af) (yv := Vi (i64.wrap (g - 1))) (.pointer (some ⟨bN, (Int.toNat (i64.wrap (g - 1))), none⟩)) R R R R cu (x_load (xv := .pointer (some ⟨bN, (Int.toNat (i64.wrap (g - 1))), none⟩)) (.slice f (L).length am) R R R (RView.load tcell22 ba) (x_u 1 [(5, .slice f (L).length am)] (x_ek (c_nm [(0, Vp a 0), (1, Vi g), (4, Vi G), (5, .slice f (L).length am)] (fun aq => ?_)))))
     refine c_sp (x_u 2 [(24, Vp a 0), (25, Vp a 0)] (x_fieldAddr (xv := Vp a 0) (Vp a 4) R R R (reads_field tfld109_2 _ _) (x_load (xv := Vp a 4) (.slice ae (ab).length af) R R R (reads_box tcell57 p nn 4 _ R) (x_u 2 [(28, Vi g), (29, Vi (i64.wrap (g - 1)))] ?_))))
     obtain ⟨cX, cA, b⟩ := bind_some b
     obtain ⟨bO, cF, cG, cv, bx⟩ := OwnR.view (P := Tryz.prog) (Mo := []) tsl57 w cA
     refine x_indexAddr (xv := .slice ae (ab).length af) (yv := Vi (i64.wrap (g - 1))) (.pointer (some ⟨bO, (Int.toNat (i64.wrap (g - 1))), none⟩)) R R R R cv ?_
     obtain ⟨aX, ca, ah, bj, bk, bX⟩ := OwnR.opn w ba
     replace w := ca
     have bU := d.split 1 R bk bj bX
     have N : ∀ m ∈ fl [blk f, [a], aX, i, c], m ∈ fl [[a], x, i, c] := fun m J => split_sub (ls := [[a], x, i, c]) 1 R bk bj m (pick_sub [some 0, some 1, some 2, some 3, some 4] _ R m J)
     replace d : MS l [blk f, [a], aX, i, c] := bU.pick [some 0, some 1, some 2, some 3, some 4] _ R
     replace h : NP (fl [[a], x, i]) l.heap.size [blk f, [a], aX, i] := (NP.cons (fun e y => h.at 1 R e (bk e y)) (NP.cons (h.at 0 R) (NP.cons (fun e y => h.at 1 R e (bj e y)) (NP.cons (h.at 2 R) (NP.nil _ _)))))
     replace q := q.sub N
     replace u := u.sub N
     replace ah := OwnS.plain (M' := fl [blk f, [a], aX, i, c]) (plain_int _) ah
     have cK := ba.eq
     have cL := ba.at_
     clear ba bU bj bk bX N
     have cg := bx.eq
     have cw := bx.at_
     clear bx
     obtain ⟨bC, be, cp, aL, bu, cb⟩ := OwnR.cls (P := Tryz.prog) (plain_int _) tcell22 w cg cw (OwnS.nil (eInt .i64) 3 l []) (fun m J => by cases J) (d.ltat 2 R)
     refine x_store bC (xv := .pointer (some ⟨bO, (Int.toNat (i64.wrap (g - 1))), none⟩)) (yv := .slice none 0 0) R R R R cp (inl1 ?_)
     have I : Stp (fl [blk f, [a], aX, i, c]) l (fl [blk f, [a], be, i, c]) bC := Stp.upd 2 aL R (fun e y => (bu e y).1)
     replace q := q.step I
     replace u := u.step I
     replace A := A.step (plain_int _) aL (d.apart 3 2 R R R)
     replace p := aL.box p (d.apart 1 2 R R R _ mem1)
     replace ah := ah.step I aL (d.apart 0 2 R R R)
     replace d : MS bC [blk f, [a], be, i, c] := d.upd 2 aL R bu
     have av : NP (fl [[a], x, i]) l.heap.size [blk f, [a], be, i] := (NP.cons (h.at 0 R) (NP.cons (h.at 1 R) (NP.cons (fun e y => (bu e y).1.elim (fun b => h.at 2 R e b) (fun b => .inr (Nat.le_trans o.size b))) (NP.cons (h.at 3 R) (NP.nil _ _)))))
     replace o := o.then aL (h.at 2 R)
     replace h := av
     clear av
     replace w := cb
     have bw : (Value.slice ae (ab).length af) = (Value.slice ae ((ab.set (Int.toNat (i64.wrap (g - 1))) ([] : List Int))).length af) := by first | (rw [List.length_set]; done) | simp only [List.length_set]
     rw [bw] at p
     try rw [bw]
     clear bw
     refine x_ek (c_sp (x_u 1 [(31, .slice f (L).length am)] (x_len (vs := [.slice f (L).length am]) (Vi ((L).length : Int)) R R R (reads_len tsl22 _ _ _ _ _) (x_u 1 [(33, Vi 0)] (x_ek (c_block ?_))))))
     obtain ⟨b6, bp, b8⟩ := bind_some b
     obtain ⟨bb, bp⟩ := loop_some bp
     refine c_loop (loop_rule hmx (σ := Nat × (List (List Int)) × (List (List Int)) × Int × Int × Option Addr × Nat × List Nat × Option Addr × Nat × List Nat) (fun Q => match Q with | (_, az, aA, aJ, U, aD, aF, s, aE, aG, t) => [(0, Vp a 0), (1, Vi g), (4, Vi G), (31, .slice f (L).length am), (32, Vi ((L).length : Int)), (33, Vi U)]) (fun Q v => match Q with | (bA, az, aA, aJ, U, aD, aF, s, aE, aG, t) => loopN (rollin_machine_at_L14 r Z aa K O g L) bA (az, aA, aJ, U) = some b6 ∧ Ev (fl [[a], x, i]) l v ∧ MS v [blk f, [a], s, t, c] ∧ FR l.heap.size [] ∧ NP (fl [[a], x, i]) l.heap.size [blk f, [a], s, t] ∧ SlR (eIt4) v (fl [blk f, [a], s, t, c]) E F r ∧ SlR (eInt .i64) v (fl [blk f, [a], s, t, c]) X Y K ∧ OwnR (eInt .i64) 3 22 v s aD aF az none ∧ OwnR (eInt .i64) 3 22 v t aE aG aA none ∧ v.heap[a]? = some (.cells #[.slice E (r).length F, Vi Z, Vi aa, .slice X (K).length Y, .slice aD (az).length aF, .slice aE (aA).length aG, Vi aJ, Vi O] 109 (0, 0)) ∧ OwnS (eInt .i64) 3 v (fl [blk f, [a], s, t, c]) f am L) (fun Q => Q.1) (bb, (ab.set (Int.toNat (i64.wrap (g - 1))) ([] : List Int)), bc, G, 0, ae, af, be, bf, bg, i) ⟨R, R, R, R, R, R, trivial⟩ ⟨bp, o, d, C, h, q, u, w, A, p, ah⟩ ?_)
     rintro ⟨bb, az, aA, aJ, U, aD, aF, s, aE, aG, t⟩ aq bD ⟨a4, o, d, C, h, q, u, w, A, p, ah⟩
     rcases bb with _ | bb
     · exact (loopN_zero a4).elim
     obtain ⟨cO, b, a4⟩ := bind_some a4
     refine c_sp (x_u 1 [(34, .bool (decide (U < ((L).length : Int))))] (x_ek (c_nm [(0, Vp a 0), (1, Vi g), (4, Vi G), (31, .slice f (L).length am), (32, Vi ((L).length : Int)), (33, Vi U), (34, .bool (decide (U < ((L).length : Int))))] (fun aq => ?_))))
     refine c_seq (c_if (decide (U < ((L).length : Int))) R b (fun b => ?_) (fun b => ?_))
     · refine c_skip (k_then (c_seq (c_block (c_sp ?_))))
       obtain ⟨bd, cx, b⟩ := bind_some b
       obtain ⟨bL, cH, cJ, cq, ce, bo⟩ := own_index (Mo := []) tsl22 ah cx
       obtain rfl := bo
       refine x_indexAddr (xv := .slice f (L).length am) (yv := Vi U) (.pointer (some ⟨bL, (Int.toNat U) * (eInt .i64).n, none⟩)) R R R R cq (x_load (xv := .pointer (some ⟨bL, (Int.toNat U) * (eInt .i64).n, none⟩)) (Vi bd) R R R (reads_cell0 tcell3 ce (fun _ b => by cases b)) ?_)
       refine x_u 1 [(7, Vi bd)] (x_ek (c_plain (x_u 3 [(37, Vp a 0), (38, Vi bd), (39, Vi g)] ?_)))
       obtain ⟨bE, J, b⟩ := bind_some b
       have S : MS bD ([[a], s, t] ++ [blk f, c]) := d.pick [some 1, some 2, some 3, some 0, some 4] _ R
       have a7 : ∀ m ∈ fl ([[a], s, t] ++ [blk f, c]), m ∈ fl [blk f, [a], s, t, c] := pick_sub [some 1, some 2, some 3, some 0, some 4] _ R
       have aB : ∀ m ∈ fl ([[a], s, t] ++ [(fl [blk f, c])]), m ∈ fl [blk f, [a], s, t, c] := fun m J => a7 m (fl_unfold m J)
       have a3 := rollin_machine_push_w a E F r Z aa X Y K aD aF s az aE aG t aA aJ O bd g _ bD (fl [blk f, c]) (S.fold (P := [[a], s, t])) (q.sub aB) (u.sub aB) w A p J
       refine x_call 116 #[] #[] [Vp a 0, Vi bd, Vi g] _ R R R R a3 ?_
       rintro bB cB ⟨bY, b2, ax, b0, b4, ay, rfl, bh, cj, ck, cl, ch, bQ, a5⟩
       clear a3 J
       refine inl1 ?_
       have aS : MS bD ([[a], s, t] ++ [blk f, c]) := d.pick [some 1, some 2, some 3, some 0, some 4] _ R
       have aC : ∀ m ∈ fl ([[a], s, t] ++ [blk f, c]), m ∈ fl [blk f, [a], s, t, c] := pick_sub [some 1, some 2, some 3, some 0, some 4] _ R
       have a9 := Stp.call (LS := [blk f, [a], s, t, c]) (res := []) (par := [[a], ax, ay]) (R := [blk f, c]) bh (fun e y => aC e (fl_left' (P := [[a], s, t]) e y)) bQ a5 (fun m J => aC m (fl_right' (P := [[a], s, t]) m J))
       have a8 : ∀ m ∈ fl [blk f, [a], ax, ay, c], m ∈ fl ([] ++ ([[a], ax, ay] ++ [blk f, c])) := pick_sub [some 3, some 0, some 1, some 2, some 4] _ R
       have I := a9.res a8
       replace q := q.step I
       replace u := u.step I
       replace ah := ah.step I bh (MS.outs (P := [[a], s, t]) aS 0 R)
       replace d : MS cB [blk f, [a], ax, ay, c] := (MS.call (P := [[a], s, t]) (R := [blk f, c]) (res := []) (par := [[a], ax, ay]) aS bh ch bQ a5).pick [some 3, some 0, some 1, some 2, some 4] _ R
       have an : ∀ e ∈ fl [[a], s, t], e ∈ (fl [[a], x, i]) ∨ l.heap.size ≤ e := NP.mem (ls := [[a], s, t]) (h.pick [some 1, some 2, some 3] _ R)
       have av : NP (fl [[a], x, i]) l.heap.size [blk f, [a], ax, ay] := (NP.cons (h.at 0 R) (NP.cons (fun e y => (a5.at 0 R e y).elim (fun b => an e b) (fun b => .inr (Nat.le_trans o.size b))) (NP.cons (fun e y => (a5.at 1 R e y).elim (fun b => an e b) (fun b => .inr (Nat.le_trans o.size b))) (NP.cons (fun e y => (a5.at 2 R e y).elim (fun b => an e b) (fun b => .inr (Nat.le_trans o.size b))) (NP.nil _ _)))))
       replace o := o.then bh an
       replace h := av
       clear av
       replace p := cj
       replace w := ck
       replace A := cl
       clear S aB a7 aS aC a9 a8 I
       refine x_end R (k_block (k_then (c_plain (x_u 2 [(41, Vi (i64.wrap (U + 1))), (33, Vi (i64.wrap (U + 1)))] (x_end R ?_)))))
       obtain rfl := some_inj b
       exact k_then ⟨(bb, bE.2.1, bE.2.2, bE.1, i64.wrap (U + 1), bY, b2, ax, b0, b4, ay), ⟨R, R, R, R, R, R, trivial⟩, ⟨a4, o, d, C, h, q, u, w, A, p, ah⟩, Nat.lt_succ_self _⟩
     refine c_exit (k_then_exit ?_)
     obtain rfl := some_inj b
     have bz := some_inj a4
     subst bz
     replace b := b8
     refine k_then_exit (k_block_in ?_)
     have S := d.pick [some 1, some 2, some 3, some 4] [[a], s, t, c] R
     have N := pick_sub (ls := [blk f, [a], s, t, c]) [some 1, some 2, some 3, some 4] [[a], s, t, c] R
     replace q := q.sub N
     replace u := u.sub N
     replace d := S
     replace C := C.pick [] [] R
     replace h : NP (fl [[a], x, i]) l.heap.size [[a], s, t] := (NP.cons (h.at 1 R) (NP.cons (h.at 2 R) (NP.cons (h.at 3 R) (NP.nil _ _))))
     clear S N
     exact k_then ⟨(az, aA, aJ, aD, aF, s, aE, aG, t), ⟨R, R, R, trivial⟩, b, o, d, C, h, q, u, w, A, p⟩
   refine c_skip ?_
   exact k_then ⟨(ab, bc, G, ae, af, x, bf, bg, i), ⟨R, R, R, trivial⟩, b, o, d, C, h, q, u, w, A, p⟩
 rintro ⟨aH, aI, a2, aY, a0, ao, aZ, a1, ap⟩ aq cS ⟨b, o, d, C, h, q, u, w, A, p⟩
 refine c_seq (c_sp (x_u 2 [(42, Vp a 0), (43, Vp a 0)] (x_fieldAddr (xv := Vp a 0) (Vp a 0) R R R (reads_field tfld109_0 _ _) (x_fieldAddr (xv := Vp a 0) (Vp a 0) R R R (reads_field tfld50_0 _ _) (x_load (xv := Vp a 0) (.slice E (r).length F) R R R (reads_box tcell36 p nn 0 _ R) (x_len (vs := [.slice E (r).length F]) (Vi ((r).length : Int)) R R R (reads_len tsl36 _ _ _ _ _) (x_u 1 [(48, Vi 0)] (x_ek (c_nm [(0, Vp a 0), (1, Vi g), (4, Vi G), (46, .slice E (r).length F), (47, Vi ((r).length : Int)), (48, Vi 0)] (fun aq => ?_))))))))))
 refine c_block ?_
 obtain ⟨b7, bq, b9⟩ := bind_some b
 obtain ⟨aU, bq⟩ := loop_some bq
 refine c_loop (loop_rule hmx (σ := Nat × (List (List Int)) × (List (List Int)) × Int × Int × Option Addr × Nat × List Nat × Option Addr × Nat × List Nat) (fun Q => match Q with | (_, ar, au, ag, D, ai, ak, j, aj, al, k) => [(0, Vp a 0), (1, Vi g), (4, Vi G), (46, .slice E (r).length F), (47, Vi ((r).length : Int)), (48, Vi D)]) (fun Q v => match Q with | (bA, ar, au, ag, D, ai, ak, j, aj, al, k) => loopN (rollin_machine_at_L21 r Z aa K O g) bA (ar, au, ag, D) = some b7 ∧ Ev (fl [[a], x, i]) l v ∧ MS v [[a], j, k, c] ∧ FR l.heap.size [] ∧ NP (fl [[a], x, i]) l.heap.size [[a], j, k] ∧ SlR (eIt4) v (fl [[a], j, k, c]) E F r ∧ SlR (eInt .i64) v (fl [[a], j, k, c]) X Y K ∧ OwnR (eInt .i64) 3 22 v j ai ak ar none ∧ OwnR (eInt .i64) 3 22 v k aj al au none ∧ v.heap[a]? = some (.cells #[.slice E (r).length F, Vi Z, Vi aa, .slice X (K).length Y, .slice ai (ar).length ak, .slice aj (au).length al, Vi ag, Vi O] 109 (0, 0))) (fun Q => Q.1) (aU, aH, aI, a2, 0, aY, a0, ao, aZ, a1, ap) ⟨R, R, R, R, R, R, trivial⟩ ⟨bq, o, d, C, h, q, u, w, A, p⟩ ?_)
 rintro ⟨aU, ar, au, ag, D, ai, ak, j, aj, al, k⟩ aq cU ⟨aQ, o, d, C, h, q, u, w, A, p⟩
 rcases aU with _ | aU
 · exact (loopN_zero aQ).elim
 obtain ⟨cQ, b, aQ⟩ := bind_some aQ
 refine c_sp (x_u 1 [(49, .bool (decide (D < ((r).length : Int))))] (x_ek (c_nm [(0, Vp a 0), (1, Vi g), (4, Vi G), (46, .slice E (r).length F), (47, Vi ((r).length : Int)), (48, Vi D), (49, .bool (decide (D < ((r).length : Int))))] (fun aq => ?_))))
 refine c_seq (c_if (decide (D < ((r).length : Int))) R b (fun b => ?_) (fun b => ?_))
 · refine c_skip (k_then (c_seq (c_block (c_sp (x_u 1 [(50, Vi D)] ?_)))))
   obtain ⟨H, cy, b⟩ := bind_some b
   obtain ⟨bI, cI, cr, cf, bo⟩ := reads_index (Mo := []) tsl36 q cy
   obtain ⟨_, _, rfl, rfl, ⟨_, _, rfl, rfl, ⟨_, _, rfl, rfl, rfl⟩⟩⟩ := bo
   refine x_indexAddr (xv := .slice E (r).length F) (yv := Vi D) (.pointer (some bI)) R R R R cr (x_load (xv := .pointer (some bI)) (.agg #[Vi H.1, Vi H.2.1, Vi H.2.2.1, Vi H.2.2.2]) R R R (reads_agg tagg76 cf (fun _ b => by cases b)) ?_)
   refine x_alloc (z := .agg #[Vi 0, Vi 0, Vi 0, Vi 0]) R R (by kernel_rfl) (fun B cC bv aK aN cN => ?_)
   replace aK : cC.heap[B]? = some (.cells #[Vi 0, Vi 0, Vi 0, Vi 0] 76 (0, 0)) := aK
   refine inl1 ?_
   have I := Stp.box (ls := [[a], j, k, c]) aN bv
   replace p := aN.box p nn
   replace q := q.step I
   replace u := u.step I
   replace w := w.step (plain_int _) aN nn2
   replace A := A.step (plain_int _) aN nn2
   replace d := d.box aN bv aK
   replace C := C.box o.size bv
   replace o := o.ext aN
   refine x_u 1 [(8, Vi D)] ?_
   obtain ⟨bl, cs, cc, aO⟩ := store_boxagg 0 [Vi H.1, Vi H.2.1, Vi H.2.2.1, Vi H.2.2.2] #[Vi H.1, Vi H.2.1, Vi H.2.2.1, Vi H.2.2.2] tagg76 aK R R R
   refine x_store bl (xv := Vp B 0) (yv := .agg #[Vi H.1, Vi H.2.1, Vi H.2.2.1, Vi H.2.2.2]) R R R R cs (inl1 ?_)
   have I := Stp.ev' (ls := [[B], [a], j, k, c]) aO (mem_flat 0 R)
   replace p := aO.box p (d.apart 1 0 R R R _ mem1)
   replace q := q.step I
   replace u := u.step I
   replace w := w.step (plain_int _) aO (d.apart 2 0 R R R)
   replace A := A.step (plain_int _) aO (d.apart 3 0 R R R)
   replace d := d.ev aO
   replace o := o.then aO (fun e y => .inr (C.at 0 R e y))
   replace aK := cc
   refine x_ek (c_sp (x_fieldAddr (xv := Vp B 0) (Vp B 2) R R R (reads_field tfld76_2 _ _) (x_load (xv := Vp B 2) (Vi H.2.2.1) R R R (reads_box tcell3 aK nn 2 _ R) (x_u 2 [(55, Vi g), (56, .bool (H.2.2.1 == g))] (x_ek (c_if (H.2.2.1 == g) R b (fun b => ?_) (fun b => ?_)))))))
   · refine c_plain (x_u 3 [(57, Vp a 0), (58, Vi D), (59, Vi g)] ?_)
     obtain ⟨bF, J, b⟩ := bind_some b
     have S : MS bl ([[a], j, k] ++ [[B], c]) := d.pick [some 1, some 2, some 3, some 0, some 4] _ R
     have a7 : ∀ m ∈ fl ([[a], j, k] ++ [[B], c]), m ∈ fl [[B], [a], j, k, c] := pick_sub [some 1, some 2, some 3, some 0, some 4] _ R
     have aB : ∀ m ∈ fl ([[a], j, k] ++ [(fl [[B], c])]), m ∈ fl [[B], [a], j, k, c] := fun m J => a7 m (fl_unfold m J)
     have a3 := rollin_machine_push_w a E F r Z aa X Y K ai ak j ar aj al k au ag O D g _ bl (fl [[B], c]) (S.fold (P := [[a], j, k])) (q.sub aB) (u.sub aB) w A p J
     refine x_call 116 #[] #[] [Vp a 0, Vi D, Vi g] _ R R R R a3 ?_
     rintro bB cD ⟨bZ, b3, ac, b1, b5, ad, rfl, br, cm, cn, co, ci, bS, a6⟩
     clear a3 J
     refine inl1 ?_
     have aS : MS bl ([[a], j, k] ++ [[B], c]) := d.pick [some 1, some 2, some 3, some 0, some 4] _ R
     have aC : ∀ m ∈ fl ([[a], j, k] ++ [[B], c]), m ∈ fl [[B], [a], j, k, c] := pick_sub [some 1, some 2, some 3, some 0, some 4] _ R
     have a9 := Stp.call (LS := [[B], [a], j, k, c]) (res := []) (par := [[a], ac, ad]) (R := [[B], c]) br (fun e y => aC e (fl_left' (P := [[a], j, k]) e y)) bS a6 (fun m J => aC m (fl_right' (P := [[a], j, k]) m J))
     have a8 : ∀ m ∈ fl [[B], [a], ac, ad, c], m ∈ fl ([] ++ ([[a], ac, ad] ++ [[B], c])) := pick_sub [some 3, some 0, some 1, some 2, some 4] _ R
     have I := a9.res a8
     replace q := q.step I
     replace u := u.step I
     replace d : MS cD [[B], [a], ac, ad, c] := (MS.call (P := [[a], j, k]) (R := [[B], c]) (res := []) (par := [[a], ac, ad]) aS br ci bS a6).pick [some 3, some 0, some 1, some 2, some 4] _ R
     have an : ∀ e ∈ fl [[a], j, k], e ∈ (fl [[a], x, i]) ∨ l.heap.size ≤ e := NP.mem (ls := [[a], j, k]) (h.pick [some 0, some 1, some 2] _ R)
     have av : NP (fl [[a], x, i]) l.heap.size [[a], ac, ad] := (NP.cons (fun e y => (a6.at 0 R e y).elim (fun b => an e b) (fun b => .inr (Nat.le_trans o.size b))) (NP.cons (fun e y => (a6.at 1 R e y).elim (fun b => an e b) (fun b => .inr (Nat.le_trans o.size b))) (NP.cons (fun e y => (a6.at 2 R e y).elim (fun b => an e b) (fun b => .inr (Nat.le_trans o.size b))) (NP.nil _ _))))
     replace o := o.then br an
     replace h := av
     clear av
     replace p := cm
     replace w := cn
     replace A := co
     clear S aB a7 aS aC a9 a8 I
     refine x_end R (k_block (k_then (c_nm [(0, Vp a 0), (1, Vi g), (4, Vi G), (46, .slice E (r).length F), (47, Vi ((r).length : Int)), (48, Vi D)] (fun aq => ?_))))
     refine c_plain (x_u 2 [(61, Vi (i64.wrap (D + 1))), (48, Vi (i64.wrap (D + 1)))] (x_end R ?_))
     obtain rfl := some_inj b
     have S := d.pick [some 1, some 2, some 3, some 4] [[a], ac, ad, c] R
     have N := pick_sub (ls := [[B], [a], ac, ad, c]) [some 1, some 2, some 3, some 4] [[a], ac, ad, c] R
     replace q := q.sub N
     replace u := u.sub N
     replace d := S
     replace C := C.pick [] [] R
     clear S N
     exact k_then ⟨(aU, bF.2.1, bF.2.2, bF.1, i64.wrap (D + 1), bZ, b3, ac, b1, b5, ad), ⟨R, R, R, R, R, R, trivial⟩, ⟨aQ, o, d, C, h, q, u, w, A, p⟩, Nat.lt_succ_self _⟩
   refine c_skip (k_block (k_then (c_plain (x_u 2 [(61, Vi (i64.wrap (D + 1))), (48, Vi (i64.wrap (D + 1)))] (x_end R ?_)))))
   obtain rfl := some_inj b
   have S := d.pick [some 1, some 2, some 3, some 4] [[a], j, k, c] R
   have N := pick_sub (ls := [[B], [a], j, k, c]) [some 1, some 2, some 3, some 4] [[a], j, k, c] R
   replace q := q.sub N
   replace u := u.sub N
   replace d := S
   replace C := C.pick [] [] R
   clear S N
   exact k_then ⟨(aU, ar, au, ag, i64.wrap (D + 1), ai, ak, j, aj, al, k), ⟨R, R, R, R, R, R, trivial⟩, ⟨aQ, o, d, C, h, q, u, w, A, p⟩, Nat.lt_succ_self _⟩
 refine c_exit (k_then_exit ?_)
 obtain rfl := some_inj b
 have bz := some_inj aQ
 subst bz
 replace b := b9
 refine k_then_exit (k_block_in (k_then (c_nm [(0, Vp a 0), (4, Vi G)] (fun aq => ?_))))
 refine c_sp (x_u 2 [(62, Vp a 0), (63, Vp a 0)] (x_fieldAddr (xv := Vp a 0) (Vp a 6) R R R (reads_field tfld109_4 _ _) (x_load (xv := Vp a 6) (Vi ag) R R R (reads_box tcell3 p nn 6 _ R) (x_u 2 [(66, Vi G), (67, .bool (decide (ag > G)))] (x_ek (c_if (decide (ag > G)) R b (fun b => ?_) (fun b => ?_)))))))
 · refine c_plain (x_u 2 [(68, Vp a 0), (69, Vp a 0)] (x_fieldAddr (xv := Vp a 0) (Vp a 7) R R R (reads_field tfld109_5 _ _) (x_load (xv := Vp a 7) (Vi O) R R R (reads_box tcell3 p nn 7 _ R) (x_u 2 [(72, Vi (i64.wrap (O + 1))), (73, Vp a 0)] (x_fieldAddr (xv := Vp a 0) (Vp a 7) R R R (reads_field tfld109_5 _ _) ?_)))))
   obtain ⟨cE, ct, cd, bi⟩ := store_box 7 (Vi (i64.wrap (O + 1))) #[.slice E (r).length F, Vi Z, Vi aa, .slice X (K).length Y, .slice ai (ar).length ak, .slice aj (au).length al, Vi ag, Vi (i64.wrap (O + 1))] tcell3 p R R R
   refine x_store cE (xv := Vp a 7) (yv := Vi (i64.wrap (O + 1))) R R R R ct (inl1 ?_)
   replace w := w.step (plain_int _) bi (d.apart 1 0 R R R)
   replace A := A.step (plain_int _) bi (d.apart 2 0 R R R)
   replace d := d.ev bi
   replace o := o.then bi (h.at 0 R)
   replace p := cd
   refine x_end R (r_normal (r_vals [] trivial ?_))
   obtain rfl := some_inj b
   have bt := d.pick [some 0, some 1, some 2, some 3] [[a], j, k, c] R
   have bs := C.pick [] [] R
   exact ⟨ai, ak, j, aj, al, k, R, o, p, w, A, bt, bs, (NP.cons (h.at 0 R) (NP.cons (h.at 1 R) (NP.cons (h.at 2 R) (NP.nil _ _))))⟩
 refine c_skip (r_normal (r_vals [] trivial ?_))
 obtain rfl := some_inj b
 have bt := d.pick [some 0, some 1, some 2, some 3] [[a], j, k, c] R
 have bs := C.pick [] [] R
 exact ⟨ai, ak, j, aj, al, k, R, o, p, w, A, bt, bs, (NP.cons (h.at 0 R) (NP.cons (h.at 1 R) (NP.cons (h.at 2 R) (NP.nil _ _))))⟩
def rollin_run_L14 (h : Int) (b : (((List (Int × Int × Int × Int)) × Int) × (Int × (List Int)) × (List (List Int)) × (List (List Int)) × Int × Int)) (i : (List (List Int)) × (List (List Int)) × Int × Int × Int) : Option (Step ((List (List Int)) × (List (List Int)) × Int × Int × Int) ((List (List Int)) × (List (List Int)) × Int × Int)) :=
match i with
| (d, e, f, g, c) =>
(if (decide (c ≤ h)) = true then
((rollin_machine_at b.1.1 b.1.2 b.2.1.1 b.2.1.2 d e f g c).bind fun a =>
some (.next (a.2.2.1, a.2.2.2, a.1, a.2.1, i64.wrap (c + 1))))
else
some (.done (d, e, f, g)))
def rollin_run (g : List (Int × Int × Int × Int)) (h : Int) (i : Int) (j : List Int) (k : Int) : Option (((List (Int × Int × Int × Int)) × Int) × (Int × (List Int)) × (List (List Int)) × (List (List Int)) × Int × Int) :=
((rollin_start g h i j).bind fun a =>
((loop (rollin_run_L14 k a) (a.2.2.1, a.2.2.2.1, a.2.2.2.2.1, a.2.2.2.2.2, 0)).bind fun b => match b with
| (c, d, e, f) => some ((a.1.1, a.1.2), (a.2.1.1, a.2.1.2), c, d, e, f)))
theorem rollin_run_w (B : Option Addr) (D : Nat) (y : List (Int × Int × Int × Int)) (F : Int) (G : Int) (C : Option Addr) (E : Nat) (z : List Int) (A : Int) (t : (((List (Int × Int × Int × Int)) × Int) × (Int × (List Int)) × (List (List Int)) × (List (List Int)) × Int × Int)) (p : World) (b : List Nat) (i : MS p [b]) (al : SlR (eIt4) p (fl [b]) B D y) (am : SlR (eInt .i64) p (fl [b]) C E z) (e : rollin_run y F G z A = some t) : CallVC Tryz.prog 54 [.agg #[Vl B y D, Vi F], .agg #[Vi G, Vl C z E], Vi A] p fun aI m => ∃ (L : Nat), ∃ (aN : Option Addr), ∃ (aU : Nat), ∃ (aO : Option Addr), ∃ (aX : Nat), ∃ (aQ : Option Addr), ∃ (aY : Nat), ∃ (ac : List Nat), ∃ (aS : Option Addr), ∃ (aZ : Nat), ∃ (ab : List Nat), aI = .pointer (some ⟨L, 0, none⟩) ∧ Ev [] p m ∧ MS m [[L], ac, ab, b] ∧ FR p.heap.size [[L], ac, ab] ∧ m.heap[L]? = some (.cells #[Vl aN t.1.1 aU, Vi t.1.2, Vi t.2.1.1, Vl aO t.2.1.2 aX, Vl aQ t.2.2.1 aY, Vl aS t.2.2.2.1 aZ, Vi t.2.2.2.2.1, Vi t.2.2.2.2.2] 109 (0, 0)) ∧ SlR (eIt4) m (fl [[L], ac, ab, b]) aN aU t.1.1 ∧ SlR (eInt .i64) m (fl [[L], ac, ab, b]) aO aX t.2.1.2 ∧ OwnR (eInt .i64) 3 22 m ac aQ aY t.2.2.1 none ∧ OwnR (eInt .i64) 3 22 m ab aS aZ t.2.2.2.1 none := by
 refine calls_vc hmx Tryz.func54 (by kernel_rfl) R (rs := [.tmp 6]) R (by kernel_rfl) (args := [.agg #[Vl B y D, Vi F], .agg #[Vi G, Vl C z E], Vi A]) R ?_
 have g : Ev [] p p := Ev.refl _ _
 have l : FR p.heap.size [] := FR.nil _
 refine c_sp (x_box (xv := .agg #[Vl B y D, Vi F]) R R R (fun o bp aE U aD br => ?_))
 replace U : bp.heap[o]? = some (.cells #[Vl B y D, Vi F] 50 (0, 0)) := U
 refine inl1 ?_
 have x := Stp.box (ls := [b]) aD aE
 replace al := al.step x
 replace am := am.step x
 replace i := i.box aD aE U
 replace l := l.box g.size aE
 replace g := g.ext aD
 refine x_box (xv := .agg #[Vi G, Vl C z E]) R R R (fun s aJ aF ax ay bs => ?_)
 replace ax : aJ.heap[s]? = some (.cells #[Vi G, Vl C z E] 52 (0, 0)) := ax
 refine inl1 ?_
 have x := Stp.box (ls := [[o], b]) ay aF
 replace al := al.step x
 replace am := am.step x
 replace U := ay.box U nn
 replace i := i.box ay aF ax
 replace l := l.box g.size aF
 replace g := g.ext ay
 refine x_u 1 [(6, .pointer none)] (x_ek (c_sp (x_load (xv := Vp o 0) (.agg #[Vl B y D, Vi F]) R R R (reads_boxagg 0 [Vl B y D, Vi F] tagg50 U nn R) (x_load (xv := Vp s 0) (.agg #[Vi G, Vl C z E]) R R R (reads_boxagg 0 [Vi G, Vl C z E] tagg52 ax nn R) ?_))))
 obtain ⟨n, w, e⟩ := bind_some e
 have af := rollin_start_w B D y F G C E z _ aJ (fl [[s], [o], b]) (MS.fold (P := []) i) (al.sub fl1) (am.sub fl1) w
 refine x_call 70 #[] #[] [.agg #[Vl B y D, Vi F], .agg #[Vi G, Vl C z E]] _ R R R R af ?_
 rintro aI bq ⟨a, aq, au, ar, av, a7, bb, r, a8, bc, q, rfl, a0, bh, az, X, u, v, Y, Z⟩
 clear af w
 refine inl1 ?_
 have ak : MS aJ ([] ++ [[s], [o], b]) := i.pick [some 0, some 1, some 2] _ R
 have an : ∀ h ∈ fl [[a], r, q, [s], [o], b], h ∈ fl ([[a], r, q] ++ ([] ++ [[s], [o], b])) := pick_sub [some 0, some 1, some 2, some 3, some 4, some 5] _ R
 replace i : MS bq [[a], r, q, [s], [o], b] := (MS.call (P := []) (R := [[s], [o], b]) (res := [[a], r, q]) (par := []) ak a0 bh az (NP.init _ _)).pick [some 0, some 1, some 2, some 3, some 4, some 5] _ R
 have ag : FR p.heap.size [[a], r, q, [s], [o]] := (FR.cons (fun f k => Nat.le_trans g.size (az.at 0 R f k)) (FR.cons (fun f k => Nat.le_trans g.size (az.at 1 R f k)) (FR.cons (fun f k => Nat.le_trans g.size (az.at 2 R f k)) (FR.cons (l.at 0 R) (FR.cons (l.at 1 R) (FR.nil _))))))
 replace g := g.ext a0
 replace l := ag
 clear ag
 have a3 : ∀ h ∈ fl [[a], r, q, [s], [o], b], h ∈ fl ([[a], r, q] ++ ([] ++ [(fl [[s], [o], b])])) := fun h w => fl_tot (res := [[a], r, q]) (par := []) (R := [[s], [o], b]) h (an h w)
 replace u := u.sub a3
 replace v := v.sub a3
 clear ak an x
 refine x_u 1 [(7, Vp a 0)] (x_ek (c_seq (c_sp (x_u 1 [(8, Vi 0)] (x_ek (c_block ?_))))))
 have aj := i.pick [some 1, some 2, some 0, some 5] [r, q, [a], b] R
 have aa := pick_sub (ls := [[a], r, q, [s], [o], b]) [some 1, some 2, some 0, some 5] [r, q, [a], b] R
 replace u := u.sub aa
 replace v := v.sub aa
 replace i := aj
 replace l := l.pick [some 1, some 2, some 0] [r, q, [a]] R
 clear aj aa
 obtain ⟨bd, aB, be⟩ := bind_some e
 obtain ⟨ao, aB⟩ := loop_some aB
 refine c_loop (loop_rule hmx (σ := Nat × (List (List Int)) × (List (List Int)) × Int × Int × Int × Option Addr × Nat × List Nat × Option Addr × Nat × List Nat) (fun ap => match ap with | (_, Q, S, ad, ae, j, J, N, c, K, O, d) => [(2, Vi A), (7, Vp a 0), (8, Vi j)]) (fun ap m => match ap with | (bn, Q, S, ad, ae, j, J, N, c, K, O, d) => loopN (rollin_run_L14 A n) bn (Q, S, ad, ae, j) = some bd ∧ Ev [] p m ∧ MS m [c, d, [a], b] ∧ FR p.heap.size [c, d, [a]] ∧ SlR (eIt4) m (fl [c, d, [a], b]) aq au n.1.1 ∧ SlR (eInt .i64) m (fl [c, d, [a], b]) ar av n.2.1.2 ∧ OwnR (eInt .i64) 3 22 m c J N Q none ∧ OwnR (eInt .i64) 3 22 m d K O S none ∧ m.heap[a]? = some (.cells #[Vl aq n.1.1 au, Vi n.1.2, Vi n.2.1.1, Vl ar n.2.1.2 av, Vl J Q N, Vl K S O, Vi ad, Vi ae] 109 (0, 0))) (fun ap => ap.1) (ao, n.2.2.1, n.2.2.2.1, n.2.2.2.2.1, n.2.2.2.2.2, 0, a7, bb, r, a8, bc, q) ⟨R, R, R, trivial⟩ ⟨aB, g, i, l, u, v, Y, Z, X⟩ ?_)
 rintro ⟨ao, Q, S, ad, ae, j, J, N, c, K, O, d⟩ aL aK ⟨ah, g, i, l, u, v, Y, Z, X⟩
 rcases ao with _ | ao
 · exact (loopN_zero ah).elim
 obtain ⟨bt, e, ah⟩ := bind_some ah
 refine c_seq (c_sp (x_u 3 [(12, Vi j), (13, Vi A), (14, .bool (decide (j ≤ A)))] (x_ek (c_nm [(2, Vi A), (7, Vp a 0), (8, Vi j), (14, .bool (decide (j ≤ A)))] (fun aL => ?_)))))
 refine c_if (decide (j ≤ A)) R e (fun e => ?_) (fun e => ?_)
 · refine c_skip (k_then (c_seq (c_block (c_plain (x_u 2 [(17, Vp a 0), (18, Vi j)] ?_)))))
   obtain ⟨aA, w, e⟩ := bind_some e
   have aj : MS aK ([[a], c, d] ++ [b]) := i.pick [some 2, some 0, some 1, some 3] _ R
   have a2 : ∀ h ∈ fl ([[a], c, d] ++ [b]), h ∈ fl [c, d, [a], b] := pick_sub [some 2, some 0, some 1, some 3] _ R
   have aG : ∀ h ∈ fl ([[a], c, d] ++ [(fl [b])]), h ∈ fl [c, d, [a], b] := fun h w => a2 h (fl_unfold h w)
   have af := rollin_machine_at_w a aq au n.1.1 n.1.2 n.2.1.1 ar av n.2.1.2 J N c Q K O d S ad ae j _ aK (fl [b]) (aj.fold (P := [[a], c, d])) (u.sub aG) (v.sub aG) Y Z X w
   refine x_call 86 #[] #[] [Vp a 0, Vi j] _ R R R R af ?_
   rintro aI bo ⟨a5, a9, H, a6, ba, I, rfl, aC, bj, bk, bl, bg, a1, ai⟩
   clear af w
   refine inl1 ?_
   have ak : MS aK ([[a], c, d] ++ [b]) := i.pick [some 2, some 0, some 1, some 3] _ R
   have aH : ∀ h ∈ fl ([[a], c, d] ++ [b]), h ∈ fl [c, d, [a], b] := pick_sub [some 2, some 0, some 1, some 3] _ R
   have a4 := Stp.call (LS := [c, d, [a], b]) (res := []) (par := [[a], H, I]) (R := [b]) aC (fun f k => aH f (fl_left' (P := [[a], c, d]) f k)) a1 ai (fun h w => aH h (fl_right' (P := [[a], c, d]) h w))
   have an : ∀ h ∈ fl [H, I, [a], b], h ∈ fl ([] ++ ([[a], H, I] ++ [b])) := pick_sub [some 1, some 2, some 0, some 3] _ R
   have x := a4.res an
   replace u := u.step x
   replace v := v.step x
   replace i : MS bo [H, I, [a], b] := (MS.call (P := [[a], c, d]) (R := [b]) (res := []) (par := [[a], H, I]) ak aC bg a1 ai).pick [some 1, some 2, some 0, some 3] _ R
   have aw : ∀ f ∈ fl [[a], c, d], p.heap.size ≤ f := FR.mem (ls := [[a], c, d]) (l.pick [some 2, some 0, some 1] _ R)
   have ag : FR p.heap.size [H, I, [a]] := (FR.cons (fun f k => (ai.at 1 R f k).elim (fun e => aw f e) (fun e => Nat.le_trans g.size e)) (FR.cons (fun f k => (ai.at 2 R f k).elim (fun e => aw f e) (fun e => Nat.le_trans g.size e)) (FR.cons (fun f k => (ai.at 0 R f k).elim (fun e => aw f e) (fun e => Nat.le_trans g.size e)) (FR.nil _))))
   replace g := g.then aC (fun f k => .inr (aw f k))
   replace l := ag
   clear ag
   replace X := bj
   replace Y := bk
   replace Z := bl
   clear aj aG a2 ak aH a4 an x
   refine x_end R (k_block (k_then (c_plain (x_u 3 [(15, Vi j), (16, Vi (i64.wrap (j + 1))), (8, Vi (i64.wrap (j + 1)))] (x_end R ?_)))))
   obtain rfl := some_inj e
   exact k_then ⟨(ao, aA.2.2.1, aA.2.2.2, aA.1, aA.2.1, i64.wrap (j + 1), a5, a9, H, a6, ba, I), ⟨R, R, R, trivial⟩, ⟨ah, g, i, l, u, v, Y, Z, X⟩, Nat.lt_succ_self _⟩
 refine c_exit (k_then_exit ?_)
 obtain rfl := some_inj e
 have bm := some_inj ah
 subst bm
 replace e := be
 refine k_then_exit (k_block_in (k_then (c_nm [(7, Vp a 0)] (fun aL => ?_))))
 refine c_sp (x_u 2 [(20, Vp a 0), (6, Vp a 0)] (x_ek (c_ret (r_ret (r_vals [Vp a 0] ⟨R, trivial⟩ ?_)))))
 obtain rfl := some_inj e
 have bi := i.pick [some 2, some 0, some 1, some 3] [[a], c, d, b] R
 have aa := pick_sub (ls := [c, d, [a], b]) [some 2, some 0, some 1, some 3] [[a], c, d, b] R
 have bf := l.pick [some 2, some 0, some 1] [[a], c, d] R
 exact ⟨a, aq, au, ar, av, J, N, c, K, O, d, R, g, bi, bf, X, u.sub aa, v.sub aa, Y, Z⟩
def rollin_Run (b : List (Int × Int × Int × Int)) (c : Int) (a : Int) (d : List Int) : Option (((List (List Int)) × Int) × Int) :=
((rollin_Valid b c a d).bind fun e =>
(if (e != 0) = true then
some (([], 0), e)
else
((rollin_run b c a d a).bind fun f =>
some ((f.2.2.2.1, f.2.2.2.2.1), 0))))
theorem rollin_Run_w (l : Option Addr) (n : Nat) (j : List (Int × Int × Int × Int)) (p : Int) (c : Int) (m : Option Addr) (o : Nat) (k : List Int) (N : ((List (List Int)) × Int) × Int) (x : World) (e : List Nat) (b : MS x [e]) (v : SlR (eIt4) x (fl [e]) l n j) (w : SlR (eInt .i64) x (fl [e]) m o k) (C : rollin_Run j p c k = some N) : CallVC Tryz.prog 22 [.agg #[Vl l j n, Vi p], .agg #[Vi c, Vl m k o]] x fun ah ai => ∃ (aj : Option Addr), ∃ (ak : Nat), ∃ (U : List Nat), ah = .tuple #[.agg #[Vl aj N.1.1 ak, Vi N.1.2], Vi N.2] ∧ Ev [] x ai ∧ MS ai [U, e] ∧ FR x.heap.size [U] ∧ OwnR (eInt .i64) 3 22 ai U aj ak N.1.1 none := by
 refine calls_vc hmx Tryz.func22 (by kernel_rfl) R (rs := [.cell 4 59, .tmp 5]) R (by kernel_rfl) (args := [.agg #[Vl l j n, Vi p], .agg #[Vi c, Vl m k o]]) R ?_
 have a : Ev [] x x := Ev.refl _ _
 have i : FR x.heap.size [] := FR.nil _
 refine c_sp (x_box (xv := .agg #[Vl l j n, Vi p]) R R R (fun q az ae t aa aK => ?_))
 replace t : az.heap[q]? = some (.cells #[Vl l j n, Vi p] 50 (0, 0)) := t
 refine inl1 ?_
 have s := Stp.box (ls := [e]) aa ae
 replace v := v.step s
 replace w := w.step s
 replace b := b.box aa ae t
 replace i := i.box a.size ae
 replace a := a.ext aa
 refine x_box (xv := .agg #[Vi c, Vl m k o]) R R R (fun h aA af u O aL => ?_)
 replace u : aA.heap[h]? = some (.cells #[Vi c, Vl m k o] 52 (0, 0)) := u
 refine inl1 ?_
 have s := Stp.box (ls := [[q], e]) O af
 replace v := v.step s
 replace w := w.step s
 replace t := O.box t nn
 replace b := b.box O af u
 replace i := i.box a.size af
 replace a := a.ext O
 refine x_alloc (z := .agg #[.slice none 0 0, Vi 0]) R R (by kernel_rfl) (fun r ao ag g J aN => ?_)
 replace g : ao.heap[r]? = some (.cells #[.slice none 0 0, Vi 0] 59 (0, 0)) := g
 refine inl1 ?_
 have s := Stp.box (ls := [[h], [q], e]) J ag
 replace v := v.step s
 replace w := w.step s
 replace t := J.box t nn
 replace u := J.box u nn
 replace b := b.box J ag g
 replace i := i.box a.size ag
 replace a := a.ext J
 refine x_u 1 [(5, Vi 0)] (x_ek (c_seq (c_sp (x_load (xv := Vp q 0) (.agg #[Vl l j n, Vi p]) R R R (reads_boxagg 0 [Vl l j n, Vi p] tagg50 t nn R) (x_load (xv := Vp h 0) (.agg #[Vi c, Vl m k o]) R R R (reads_boxagg 0 [Vi c, Vl m k o] tagg52 u nn R) ?_)))))
 obtain ⟨E, L, C⟩ := bind_some C
 have I := rollin_Valid_w l n j p c m o k _ ao (fl [[r], [h], [q], e]) (MS.fold (P := []) b) (v.sub fl1) (w.sub fl1) L
 refine x_call 53 #[] #[] [.agg #[Vl l j n, Vi p], .agg #[Vi c, Vl m k o]] _ R R R R I ?_
 rintro ah an ⟨rfl, G⟩
 clear I L
 refine inl1 ?_
 have s := Stp.ext (ls := [[r], [h], [q], e]) G
 replace v := v.step s
 replace w := w.step s
 replace t := G.box t nn
 replace u := G.box u nn
 replace g := G.box g nn
 replace b := b.ev G
 replace a := a.ext G
 refine x_u 1 [(6, Vi E)] (x_ek (c_sp (x_u 2 [(11, Vi E), (12, .bool (E != 0))] (x_ek (c_if (E != 0) R C (fun C => ?_) (fun C => ?_))))))
 · refine c_sp (x_build (vs := []) (.agg #[.slice none 0 0, Vi 0]) R R R (fun _ _ => by kernel_rfl) ?_)
   refine x_u 1 [(14, Vi E)] ?_
   obtain ⟨ax, av, aq, al⟩ := store_boxagg 0 [.slice none 0 0, Vi 0] #[.slice none 0 0, Vi 0] tagg59 g R R R
   refine x_store ax (xv := Vp r 0) (yv := .agg #[.slice none 0 0, Vi 0]) R R R R av (inl1 ?_)
   replace b := b.ev al
   replace a := a.then al (fun A D => .inr (i.at 0 R A D))
   replace g := aq
   refine x_u 1 [(5, Vi E)] (x_ek (c_nm [(4, Vp r 0), (5, Vi E)] (fun ap => ?_)))
   refine c_ret (k_then_ret (r_ret (r_vals [.agg #[.slice none 0 0, Vi 0], Vi E] ⟨⟨_, R, loadVar_of_reads (reads_boxagg (Mo := []) 0 [.slice none 0 0, Vi 0] tagg59 g nn R)⟩, R, trivial⟩ ?_)))
   obtain rfl := some_inj C
   have ac := b.pick [none, some 3] [([] : List Nat), e] R
   have ab := i.pick [none] [([] : List Nat)] R
   exact ⟨none, 0, ([] : List Nat), R, a, ac, ab, OwnR.nil _ _ _ _ _⟩
 refine c_skip (k_then (c_sp (x_load (xv := Vp q 0) (.agg #[Vl l j n, Vi p]) R R R (reads_boxagg 0 [Vl l j n, Vi p] tagg50 t nn R) (x_load (xv := Vp h 0) (.agg #[Vi c, Vl m k o]) R R R (reads_boxagg 0 [Vi c, Vl m k o] tagg52 u nn R) (x_fieldAddr (xv := Vp h 0) (Vp h 0) R R R (reads_field tfld52_0 _ _) (x_load (xv := Vp h 0) (Vi c) R R R (reads_box tcell3 u nn 0 _ R) ?_))))))
 obtain ⟨d, L, C⟩ := bind_some C
 have I := rollin_run_w l n j p c m o k c _ an (fl [[r], [h], [q], e]) (MS.fold (P := []) b) (v.sub fl1) (w.sub fl1) L
 refine x_call 54 #[] #[] [.agg #[Vl l j n, Vi p], .agg #[Vi c, Vl m k o], Vi c] _ R R R R I ?_
 rintro ah H ⟨f, aB, aE, aC, aF, aD, aG, X, y, B, F, rfl, Y, au, S, Q, aH, aI, aJ, K⟩
 clear I L
 refine inl1 ?_
 have ad : MS an ([] ++ [[r], [h], [q], e]) := b.pick [some 0, some 1, some 2, some 3] _ R
 replace g := Y.box g ((MS.outs (P := []) ad 0 R) _ mem1)
 replace b : MS H [[f], X, F, [r], [h], [q], e] := (MS.call (P := []) (R := [[r], [h], [q], e]) (res := [[f], X, F]) (par := []) ad Y au S (NP.init _ _)).pick [some 0, some 1, some 2, some 3, some 4, some 5, some 6] _ R
 have am : FR x.heap.size [[f], X, F, [r], [h], [q]] := (FR.cons (fun A D => Nat.le_trans a.size (S.at 0 R A D)) (FR.cons (fun A D => Nat.le_trans a.size (S.at 1 R A D)) (FR.cons (fun A D => Nat.le_trans a.size (S.at 2 R A D)) (FR.cons (i.at 0 R) (FR.cons (i.at 1 R) (FR.cons (i.at 2 R) (FR.nil _)))))))
 replace a := a.ext Y
 replace i := am
 clear am
 clear ad s
 refine x_u 1 [(7, Vp f 0)] (x_ek (c_nm [(4, Vp r 0), (7, Vp f 0)] (fun ap => ?_)))
 refine c_seq (c_drawn [] [(0, false), (1, false), (2, false), (3, false), (4, false), (5, false), (6, false), (7, false), (8, false), (9, true), (10, false)] _ (by kernel_rfl) R ?_)
 replace g := (Ev.drew H).box g nn
 replace Q := (Ev.drew H).box Q nn
 replace K := K.step (plain_int _) (Ev.drew H) nn2
 replace b := b.ev (Ev.drew H)
 replace a := a.ext (Ev.drew H)
 refine x_u 2 [(20, Vp f 0), (21, Vp f 0)] (x_fieldAddr (xv := Vp f 0) (Vp f 5) R R R (reads_field tfld109_3 _ _) (x_load (xv := Vp f 5) (Vl y d.2.2.2.1 B) R R R (reads_box tcell57 Q nn 5 _ R) (x_u 2 [(24, Vp f 0), (25, Vp f 0)] (x_fieldAddr (xv := Vp f 0) (Vp f 6) R R R (reads_field tfld109_4 _ _) (x_load (xv := Vp f 6) (Vi d.2.2.2.2.1) R R R (reads_box tcell3 Q nn 6 _ R) (x_build (vs := [(0, Vl y d.2.2.2.1 B), (1, Vi d.2.2.2.2.1)]) (.agg #[Vl y d.2.2.2.1 B, Vi d.2.2.2.2.1]) R R R (fun _ _ => by kernel_rfl) ?_))))))
 obtain ⟨ay, aw, ar, Z⟩ := store_boxagg 0 [Vl y d.2.2.2.1 B, Vi d.2.2.2.2.1] #[Vl y d.2.2.2.1 B, Vi d.2.2.2.2.1] tagg59 g R R R
 refine x_store ay (xv := Vp r 0) (yv := .agg #[Vl y d.2.2.2.1 B, Vi d.2.2.2.2.1]) R R R R aw (inl1 ?_)
 replace K := K.step (plain_int _) Z (b.apart 2 3 R R R)
 replace b := b.ev Z
 replace a := a.then Z (fun A D => .inr (i.at 3 R A D))
 replace g := ar
 refine x_u 1 [(5, Vi 0)] (x_ek (c_ret (r_ret (r_vals [.agg #[Vl y d.2.2.2.1 B, Vi d.2.2.2.2.1], Vi 0] ⟨⟨_, R, loadVar_of_reads (reads_boxagg (Mo := []) 0 [Vl y d.2.2.2.1 B, Vi d.2.2.2.2.1] tagg59 g nn R)⟩, R, trivial⟩ ?_))))
 obtain rfl := some_inj C
 have ac := b.pick [some 2, some 6] [F, e] R
 have ab := i.pick [some 2] [F] R
 exact ⟨y, B, F, R, a, ac, ab, K⟩
def rollin_Pushes (b : List (Int × Int × Int × Int)) (c : Int) (a : Int) (d : List Int) : Option (Int × Int) :=
((rollin_Valid b c a d).bind fun e =>
(if (e != 0) = true then
some (0, e)
else
((rollin_run b c a d a).bind fun f =>
some (f.2.2.2.2.2, 0))))
theorem rollin_Pushes_w (d : Option Addr) (f : Nat) (b : List (Int × Int × Int × Int)) (h : Int) (a : Int) (e : Option Addr) (g : Nat) (c : List Int) (C : Int × Int) (u : World) (n : List Nat) (p : MS u [n]) (q : SlR (eIt4) u (fl [n]) d f b) (r : SlR (eInt .i64) u (fl [n]) e g c) (k : rollin_Pushes b h a c = some C) : CallVC Tryz.prog 23 [.agg #[Vl d b f, Vi h], .agg #[Vi a, Vl e c g]] u fun D K => D = .tuple #[Vi C.1, Vi C.2] ∧ Ev [] u K := by
 refine calls_vc hmx Tryz.func23 (by kernel_rfl) R (rs := [.tmp 4, .tmp 5]) R (by kernel_rfl) (args := [.agg #[Vl d b f, Vi h], .agg #[Vi a, Vl e c g]]) R ?_
 have i : Ev [] u u := Ev.refl _ _
 refine c_sp (x_box (xv := .agg #[Vl d b f, Vi h]) R R R (fun t L E l B aj => ?_))
 replace l : L.heap[t]? = some (.cells #[Vl d b f, Vi h] 50 (0, 0)) := l
 refine inl1 ?_
 have m := Stp.box (ls := [n]) B E
 replace q := q.step m
 replace r := r.step m
 replace p := p.box B E l
 replace i := i.ext B
 refine x_box (xv := .agg #[Vi a, Vl e c g]) R R R (fun j G F o z ak => ?_)
 replace o : G.heap[j]? = some (.cells #[Vi a, Vl e c g] 52 (0, 0)) := o
 refine inl1 ?_
 have m := Stp.box (ls := [[t], n]) z F
 replace q := q.step m
 replace r := r.step m
 replace l := z.box l nn
 replace p := p.box z F o
 replace i := i.ext z
 refine x_u 2 [(4, Vi 0), (5, Vi 0)] (x_ek (c_seq (c_sp (x_load (xv := Vp t 0) (.agg #[Vl d b f, Vi h]) R R R (reads_boxagg 0 [Vl d b f, Vi h] tagg50 l nn R) (x_load (xv := Vp j 0) (.agg #[Vi a, Vl e c g]) R R R (reads_boxagg 0 [Vi a, Vl e c g] tagg52 o nn R) ?_)))))
 obtain ⟨s, x, k⟩ := bind_some k
 have v := rollin_Valid_w d f b h a e g c _ G (fl [[j], [t], n]) (MS.fold (P := []) p) (q.sub fl1) (r.sub fl1) x
 refine x_call 53 #[] #[] [.agg #[Vl d b f, Vi h], .agg #[Vi a, Vl e c g]] _ R R R R v ?_
 rintro D N ⟨rfl, w⟩
 clear v x
 refine inl1 ?_
 have m := Stp.ext (ls := [[j], [t], n]) w
 replace q := q.step m
 replace r := r.step m
 replace l := w.box l nn
 replace o := w.box o nn
 replace p := p.ev w
 replace i := i.ext w
 refine x_u 1 [(6, Vi s)] (x_ek (c_sp (x_u 2 [(10, Vi s), (11, .bool (s != 0))] (x_ek (c_if (s != 0) R k (fun k => ?_) (fun k => ?_))))))
 · refine c_sp (x_u 3 [(12, Vi s), (4, Vi 0), (5, Vi s)] (x_ek (c_nm [(4, Vi 0), (5, Vi s)] (fun H => ?_))))
   refine c_ret (k_then_ret (r_ret (r_vals [Vi 0, Vi s] ⟨R, R, trivial⟩ ?_)))
   obtain rfl := some_inj k
   exact ⟨R, i⟩
 refine c_skip (k_then (c_sp (x_load (xv := Vp t 0) (.agg #[Vl d b f, Vi h]) R R R (reads_boxagg 0 [Vl d b f, Vi h] tagg50 l nn R) (x_load (xv := Vp j 0) (.agg #[Vi a, Vl e c g]) R R R (reads_boxagg 0 [Vi a, Vl e c g] tagg52 o nn R) (x_fieldAddr (xv := Vp j 0) (Vp j 0) R R R (reads_field tfld52_0 _ _) (x_load (xv := Vp j 0) (Vi a) R R R (reads_box tcell3 o nn 0 _ R) ?_))))))
 obtain ⟨A, x, k⟩ := bind_some k
 have v := rollin_run_w d f b h a e g c a _ N (fl [[j], [t], n]) (MS.fold (P := []) p) (q.sub fl1) (r.sub fl1) x
 refine x_call 54 #[] #[] [.agg #[Vl d b f, Vi h], .agg #[Vi a, Vl e c g], Vi a] _ R R R R v ?_
 rintro D al ⟨y, S, Z, U, aa, X, ab, Q, Y, ac, O, rfl, I, ai, ah, J, ad, ae, af, ag⟩
 clear v x
 refine inl1 ?_
 replace i := i.ext I
 clear m
 refine x_u 1 [(18, Vp y 0)] (x_fieldAddr (xv := Vp y 0) (Vp y 7) R R R (reads_field tfld109_5 _ _) (x_load (xv := Vp y 7) (Vi A.2.2.2.2.2) R R R (reads_box tcell3 J nn 7 _ R) (x_u 2 [(4, Vi A.2.2.2.2.2), (5, Vi 0)] (x_ek (c_nm [(4, Vi A.2.2.2.2.2), (5, Vi 0)] (fun H => ?_))))))
 refine c_ret (r_ret (r_vals [Vi A.2.2.2.2.2, Vi 0] ⟨R, R, trivial⟩ ?_))
 obtain rfl := some_inj k
 exact ⟨R, i⟩
def rollin_Loads_L27 (c : Int) (d : List Int) (f : Int) (g : Int × Int × Int × Int) (e : (List Int) × Int) : Option (Step ((List Int) × Int) (List Int)) :=
match e with
| (b, a) =>
(if (decide (a < c)) = true then
((idx d f).bind fun h =>
(if 0 ≤ a then
(if ((i64.wrap ↑(BitVec.ofInt i64.bits (Int.fdiv h (2 ^ (min (Int.toNat (a)) i64.bits))) &&& BitVec.ofInt i64.bits 1).toNat) == 1) = true then
((idx b a).bind fun i =>
((idx b a).bind fun j =>
some (.next ((b.set (Int.toNat a) (i64.wrap (i + g.2.2.2))), i64.wrap (a + 1)))))
else
some (.next (b, i64.wrap (a + 1))))
else none))
else
some (.done b))
def rollin_Loads_L19 (f : List (Int × Int × Int × Int)) (b : Int) (h : List Int) (i : (List Int) × Int) : Option (Step ((List Int) × Int) (List Int)) :=
match i with
| (e, c) =>
(if (decide (c < ((f).length : Int))) = true then
((idx f c).bind fun a =>
((loop (rollin_Loads_L27 b h c a) (e, a.2.2.1)).bind fun g => match g with
| d => ((idx d (i64.wrap (b + a.1))).bind fun j =>
((idx d (i64.wrap (b + a.1))).bind fun k =>
some (.next ((d.set (Int.toNat (i64.wrap (b + a.1))) (i64.wrap (j + a.2.2.2))), i64.wrap (c + 1)))))))
else
some (.done e))
def rollin_Loads (b : List (Int × Int × Int × Int)) (e : Int) (a : Int) (c : List Int) : Option ((List Int) × Int) :=
((rollin_Valid b e a c).bind fun f =>
(if (f != 0) = true then
some ([], f)
else
((rollin_start b e a c).bind fun d =>
(if (0 : Int) ≤ i64.wrap (a + ((d.2.2.2.1).length : Int)) ∧ (i64.wrap (a + ((d.2.2.2.1).length : Int)) : Int) ≤ 4294967296 then
((loop (rollin_Loads_L19 b a c) ((List.replicate (Int.toNat (i64.wrap (a + ((d.2.2.2.1).length : Int)))) 0 : List Int), 0)).bind fun g => match g with
| h => some (h, 0))
else none))))
theorem rollin_Loads_w (w : Option Addr) (x : Nat) (q : List (Int × Int × Int × Int)) (Q : Int) (h : Int) (D : Option Addr) (E : Nat) (C : List Int) (aD : (List Int) × Int) (N : World) (d : List Nat) (g : MS N [d]) (j : SlR (eIt4) N (fl [d]) w x q) (k : SlR (eInt .i64) N (fl [d]) D E C) (c : rollin_Loads q Q h C = some aD) : CallVC Tryz.prog 39 [.agg #[.slice w (q).length x, Vi Q], .agg #[Vi h, .slice D (C).length E]] N fun aX H => ∃ (ao : Option Addr), ∃ (a2 : Nat), aX = .tuple #[.slice ao (aD.1).length a2, Vi aD.2] ∧ Ev [] N H ∧ MS H [blk ao, d] ∧ FR N.heap.size [blk ao] ∧ OwnS (eInt .i64) 3 H (fl [blk ao, d]) ao a2 aD.1 := by
 refine calls_vc hmx Tryz.func39 (by kernel_rfl) R (rs := [.tmp 4, .tmp 5]) R (by kernel_rfl) (args := [.agg #[.slice w (q).length x, Vi Q], .agg #[Vi h, .slice D (C).length E]]) R ?_
 have i : Ev [] N N := Ev.refl _ _
 have u : FR N.heap.size [] := FR.nil _
 refine c_sp (x_box (xv := .agg #[.slice w (q).length x, Vi Q]) R R R (fun s bX aL J aG cl => ?_))
 replace J : bX.heap[s]? = some (.cells #[.slice w (q).length x, Vi Q] 50 (0, 0)) := J
 refine inl1 ?_
 have m := Stp.box (ls := [d]) aG aL
 replace j := j.step m
 replace k := k.step m
 replace g := g.box aG aL J
 replace u := u.box i.size aL
 replace i := i.ext aG
 refine x_box (xv := .agg #[Vi h, .slice D (C).length E]) R R R (fun a bl aN p aB cm => ?_)
 replace p : bl.heap[a]? = some (.cells #[Vi h, .slice D (C).length E] 52 (0, 0)) := p
 refine inl1 ?_
 have m := Stp.box (ls := [[s], d]) aB aN
 replace j := j.step m
 replace k := k.step m
 replace J := aB.box J nn
 replace g := g.box aB aN p
 replace u := u.box i.size aN
 replace i := i.ext aB
 refine x_u 2 [(4, .slice none 0 0), (5, Vi 0)] (x_ek (c_seq (c_sp (x_load (xv := Vp s 0) (.agg #[.slice w (q).length x, Vi Q]) R R R (reads_boxagg 0 [.slice w (q).length x, Vi Q] tagg50 J nn R) (x_load (xv := Vp a 0) (.agg #[Vi h, .slice D (C).length E]) R R R (reads_boxagg 0 [Vi h, .slice D (C).length E] tagg52 p nn R) ?_)))))
 obtain ⟨ai, ad, c⟩ := bind_some c
 have ap := rollin_Valid_w w x q Q h D E C _ bl (fl [[a], [s], d]) (MS.fold (P := []) g) (j.sub fl1) (k.sub fl1) ad
 refine x_call 53 #[] #[] [.agg #[.slice w (q).length x, Vi Q], .agg #[Vi h, .slice D (C).length E]] _ R R R R ap ?_
 rintro aX ag ⟨rfl, av⟩
 clear ap ad
 refine inl1 ?_
 have m := Stp.ext (ls := [[a], [s], d]) av
 replace j := j.step m
 replace k := k.step m
 replace J := av.box J nn
 replace p := av.box p nn
 replace g := g.ev av
 replace i := i.ext av
 refine x_u 1 [(6, Vi ai)] (x_ek (c_sp (x_u 2 [(14, Vi ai), (15, .bool (ai != 0))] (x_ek (c_if (ai != 0) R c (fun c => ?_) (fun c => ?_))))))
 · refine c_sp (x_u 3 [(16, Vi ai), (4, .slice none 0 0), (5, Vi ai)] (x_ek (c_nm [(4, .slice none 0 0), (5, Vi ai)] (fun af => ?_))))
   refine c_ret (k_then_ret (r_ret (r_vals [.slice none 0 0, Vi ai] ⟨R, R, trivial⟩ ?_)))
   obtain rfl := some_inj c
   have aI := g.pick [none, some 2] [blk none, d] R
   have aH := u.pick [none] [blk none] R
   exact ⟨none, 0, R, i, aI, aH, OwnS.nil _ _ _ _⟩
 refine c_skip (k_then (c_seq (c_drawn [] [(0, false), (1, false), (2, false), (3, false), (4, false), (5, false), (6, false), (7, false), (8, false), (9, false), (10, false), (11, false)] _ (by kernel_rfl) R ?_)))
 have m := Stp.ext (ls := [[a], [s], d]) (Ev.drew ag)
 replace j := j.step m
 replace k := k.step m
 replace J := (Ev.drew ag).box J nn
 replace p := (Ev.drew ag).box p nn
 replace g := g.ev (Ev.drew ag)
 replace i := i.ext (Ev.drew ag)
 refine x_fieldAddr (xv := Vp a 0) (Vp a 0) R R R (reads_field tfld52_0 _ _) (x_load (xv := Vp a 0) (Vi h) R R R (reads_box tcell3 p nn 0 _ R) (x_load (xv := Vp s 0) (.agg #[.slice w (q).length x, Vi Q]) R R R (reads_boxagg 0 [.slice w (q).length x, Vi Q] tagg50 J nn R) (x_load (xv := Vp a 0) (.agg #[Vi h, .slice D (C).length E]) R R R (reads_boxagg 0 [Vi h, .slice D (C).length E] tagg52 p nn R) ?_)))
 obtain ⟨aa, ad, c⟩ := bind_some c
 have Y : MS (ag).drew ([] ++ [[a], [s], d]) := g.pick [some 0, some 1, some 2] _ R
 have ba : ∀ S ∈ fl ([] ++ [[a], [s], d]), S ∈ fl [[a], [s], d] := pick_sub [some 0, some 1, some 2] _ R
 have aO : ∀ S ∈ fl ([] ++ [(fl [[a], [s], d])]), S ∈ fl [[a], [s], d] := fun S ad => ba S (fl_unfold S ad)
 have ap := rollin_start_w w x q Q h D E C _ (ag).drew (fl [[a], [s], d]) (MS.fold (P := []) Y) (j.sub aO) (k.sub aO) ad
 refine x_call 70 #[] #[] [.agg #[.slice w (q).length x, Vi Q], .agg #[Vi h, .slice D (C).length E]] _ R R R R ap ?_
 rintro aX bk ⟨O, b0, b3, b1, b4, b2, b5, ac, aZ, a3, ab, rfl, aj, bz, aw, bx, cg, ch, ci, cj⟩
 clear ap ad
 refine ⟨.inr aj, ?_⟩
 have aC : MS (ag).drew ([] ++ [[a], [s], d]) := g.pick [some 0, some 1, some 2] _ R
 have aQ : ∀ S ∈ fl ([] ++ [[a], [s], d]), S ∈ fl [[a], [s], d] := pick_sub [some 0, some 1, some 2] _ R
 have bc := Stp.call (LS := [[a], [s], d]) (res := [[O], ac, ab]) (par := []) (R := [[a], [s], d]) aj (fun G I => aQ G (fl_left' (P := []) G I)) aw (NP.init _ _) (fun S ad => aQ S (fl_right' (P := []) S ad))
 have bb : ∀ S ∈ fl [[O], ac, ab, [a], [s], d], S ∈ fl ([[O], ac, ab] ++ ([] ++ [[a], [s], d])) := pick_sub [some 0, some 1, some 2, some 3, some 4, some 5] _ R
 have m := bc.res bb
 replace j := j.step m
 replace k := k.step m
 replace J := aj.box J ((MS.outs (P := []) aC 1 R) _ mem1)
 replace p := aj.box p ((MS.outs (P := []) aC 0 R) _ mem1)
 replace g : MS bk [[O], ac, ab, [a], [s], d] := (MS.call (P := []) (R := [[a], [s], d]) (res := [[O], ac, ab]) (par := []) aC aj bz aw (NP.init _ _)).pick [some 0, some 1, some 2, some 3, some 4, some 5] _ R
 have a8 : FR N.heap.size [[O], ac, ab, [a], [s]] := (FR.cons (fun G I => Nat.le_trans i.size (aw.at 0 R G I)) (FR.cons (fun G I => Nat.le_trans i.size (aw.at 1 R G I)) (FR.cons (fun G I => Nat.le_trans i.size (aw.at 2 R G I)) (FR.cons (u.at 0 R) (FR.cons (u.at 1 R) (FR.nil _))))))
 replace i := i.ext aj
 replace u := a8
 clear a8
 clear Y aO ba aC aQ bc bb m
 refine x_u 1 [(22, Vp O 0)] (x_fieldAddr (xv := Vp O 0) (Vp O 5) R R R (reads_field tfld109_3 _ _) (x_load (xv := Vp O 5) (.slice aZ (aa.2.2.2.1).length a3) R R R (reads_box tcell57 bx nn 5 _ R) (x_len (vs := [.slice aZ (aa.2.2.2.1).length a3]) (Vi ((aa.2.2.2.1).length : Int)) R R R (reads_len tsl57 _ _ _ _ _) (x_u 1 [(26, Vi (i64.wrap (h + ((aa.2.2.2.1).length : Int))))] ?_))))
 have a9 := guard_l c
 replace c := guard_r c
 obtain ⟨b, v, bQ, bC, ak, aJ, bd⟩ := own_make (e := (eInt .i64)) tel22 bk (i64.wrap (h + ((aa.2.2.2.1).length : Int))) a9.1 a9.2 0 (fun _ _ => R)
 refine x_makeSlice _ bQ (xv := Vi (i64.wrap (h + ((aa.2.2.2.1).length : Int)))) (yv := Vi (i64.wrap (h + ((aa.2.2.2.1).length : Int)))) R R R R bC (⟨.inr ak, ?_⟩)
 have m := Stp.push (ls := [[O], ac, ab, [a], [s], d]) (l := blk b) ak (fun _ c => by cases c) (fun G I => (aJ G I).1)
 replace j := j.step m
 replace k := k.step m
 replace J := ak.box J nn
 replace p := ak.box p nn
 replace g := g.push ak aJ
 replace u := u.push (fun G I => Nat.le_trans i.size (aJ G I).1)
 replace i := i.ext ak
 have t := bd (fl [blk b, [O], ac, ab, [a], [s], d])
 clear bd
 refine x_u 1 [(7, .slice b ((List.replicate (Int.toNat (i64.wrap (h + ((aa.2.2.2.1).length : Int)))) 0 : List Int)).length v)] (x_ek (c_nm [(2, Vp s 0), (3, Vp a 0), (7, .slice b ((List.replicate (Int.toNat (i64.wrap (h + ((aa.2.2.2.1).length : Int)))) 0 : List Int)).length v)] (fun af => ?_)))
 refine c_seq (c_sp (x_fieldAddr (xv := Vp s 0) (Vp s 0) R R R (reads_field tfld50_0 _ _) (x_load (xv := Vp s 0) (.slice w (q).length x) R R R (reads_box tcell36 J nn 0 _ R) (x_len (vs := [.slice w (q).length x]) (Vi ((q).length : Int)) R R R (reads_len tsl36 _ _ _ _ _) (x_u 1 [(31, Vi 0)] (x_ek (c_block ?_)))))))
 have Y := g.pick [some 4, some 0, some 6] [[a], blk b, d] R
 have K := pick_sub (ls := [blk b, [O], ac, ab, [a], [s], d]) [some 4, some 0, some 6] [[a], blk b, d] R
 replace k := k.sub K
 replace t := t.sub K
 replace j := j.sub K
 replace g := Y
 replace u := u.pick [some 4, some 0] [[a], blk b] R
 clear Y K
 obtain ⟨bm, aE, bo⟩ := bind_some c
 obtain ⟨az, aE⟩ := loop_some aE
 refine c_loop (loop_rule hmx (σ := Nat × (List Int) × Int) (fun Z => match Z with | (_, X, A) => [(3, Vp a 0), (7, .slice b (X).length v), (29, .slice w (q).length x), (30, Vi ((q).length : Int)), (31, Vi A)]) (fun Z H => match Z with | (aU, X, A) => loopN (rollin_Loads_L19 q h C) aU (X, A) = some bm ∧ Ev [] N H ∧ MS H [[a], blk b, d] ∧ FR N.heap.size [[a], blk b] ∧ SlR (eInt .i64) H (fl [[a], blk b, d]) D E C ∧ H.heap[a]? = some (.cells #[Vi h, .slice D (C).length E] 52 (0, 0)) ∧ OwnS (eInt .i64) 3 H (fl [[a], blk b, d]) b v X ∧ SlR (eIt4) H (fl [[a], blk b, d]) w x q) (fun Z => Z.1) (az, (List.replicate (Int.toNat (i64.wrap (h + ((aa.2.2.2.1).length : Int)))) 0 : List Int), 0) ⟨R, R, R, R, R, trivial⟩ ⟨aE, i, g, u, k, p, t, j⟩ ?_)
 rintro ⟨az, X, A⟩ af cp ⟨ax, i, g, u, k, p, t, j⟩
 rcases az with _ | az
 · exact (loopN_zero ax).elim
 obtain ⟨cn, c, ax⟩ := bind_some ax
 refine c_sp (x_u 1 [(32, .bool (decide (A < ((q).length : Int))))] (x_ek (c_nm [(3, Vp a 0), (7, .slice b (X).length v), (29, .slice w (q).length x), (30, Vi ((q).length : Int)), (31, Vi A), (32, .bool (decide (A < ((q).length : Int))))] (fun af => ?_))))
 refine c_seq (c_if (decide (A < ((q).length : Int))) R c (fun c => ?_) (fun c => ?_))
 · refine c_skip (k_then (c_seq (c_block (c_sp (x_u 1 [(33, Vi A)] ?_)))))
   obtain ⟨f, bN, c⟩ := bind_some c
   obtain ⟨a0, b6, bD, bt, L⟩ := reads_index (Mo := []) tsl36 j bN
   obtain ⟨_, _, rfl, rfl, ⟨_, _, rfl, rfl, ⟨_, _, rfl, rfl, rfl⟩⟩⟩ := L
   refine x_indexAddr (xv := .slice w (q).length x) (yv := Vi A) (.pointer (some a0)) R R R R bD (x_load (xv := .pointer (some a0)) (.agg #[Vi f.1, Vi f.2.1, Vi f.2.2.1, Vi f.2.2.2]) R R R (reads_agg tagg76 bt (fun _ c => by cases c)) ?_)
   refine x_alloc (z := .agg #[Vi 0, Vi 0, Vi 0, Vi 0]) R R (by kernel_rfl) (fun r bS aK F aq ck => ?_)
   replace F : bS.heap[r]? = some (.cells #[Vi 0, Vi 0, Vi 0, Vi 0] 76 (0, 0)) := F
   refine inl1 ?_
   have m := Stp.box (ls := [[a], blk b, d]) aq aK
   replace p := aq.box p nn
   replace k := k.step m
   replace t := t.step m aq nn2
   replace j := j.step m
   replace g := g.box aq aK F
   replace u := u.box i.size aK
   replace i := i.ext aq
   refine x_u 1 [(8, Vi A)] ?_
   obtain ⟨bU, bE, bs, ar⟩ := store_boxagg 0 [Vi f.1, Vi f.2.1, Vi f.2.2.1, Vi f.2.2.2] #[Vi f.1, Vi f.2.1, Vi f.2.2.1, Vi f.2.2.2] tagg76 F R R R
   refine x_store bU (xv := Vp r 0) (yv := .agg #[Vi f.1, Vi f.2.1, Vi f.2.2.1, Vi f.2.2.2]) R R R R bE (inl1 ?_)
   have m := Stp.ev' (ls := [[r], [a], blk b, d]) ar (mem_flat 0 R)
   replace p := ar.box p (g.apart 1 0 R R R _ mem1)
   replace k := k.step m
   replace t := t.step m ar (g.apart 2 0 R R R)
   replace j := j.step m
   replace g := g.ev ar
   replace i := i.then ar (fun G I => .inr (u.at 0 R G I))
   replace F := bs
   refine x_ek (c_seq (c_sp (x_fieldAddr (xv := Vp r 0) (Vp r 2) R R R (reads_field tfld76_2 _ _) (x_load (xv := Vp r 2) (Vi f.2.2.1) R R R (reads_box tcell3 F nn 2 _ R) (x_u 1 [(10, Vi f.2.2.1)] (x_ek (c_block ?_)))))))
   have Y := g.pick [some 1, some 2, some 0, some 3] [[a], blk b, [r], d] R
   have K := pick_sub (ls := [[r], [a], blk b, d]) [some 1, some 2, some 0, some 3] [[a], blk b, [r], d] R
   replace k := k.sub K
   replace t := t.sub K
   replace j := j.sub K
   replace g := Y
   replace u := u.pick [some 1, some 2, some 0] [[a], blk b, [r]] R
   clear Y K
   obtain ⟨bn, aF, bp⟩ := bind_some c
   obtain ⟨am, aF⟩ := loop_some aF
   refine c_loop (loop_rule hmx (σ := Nat × (List Int) × Int) (fun Z => match Z with | (_, B, o) => [(3, Vp a 0), (7, .slice b (B).length v), (8, Vi A), (9, Vp r 0), (10, Vi o), (29, .slice w (q).length x), (30, Vi ((q).length : Int)), (31, Vi A)]) (fun Z H => match Z with | (aU, B, o) => loopN (rollin_Loads_L27 h C A f) aU (B, o) = some bn ∧ Ev [] N H ∧ MS H [[a], blk b, [r], d] ∧ FR N.heap.size [[a], blk b, [r]] ∧ SlR (eInt .i64) H (fl [[a], blk b, [r], d]) D E C ∧ H.heap[a]? = some (.cells #[Vi h, .slice D (C).length E] 52 (0, 0)) ∧ OwnS (eInt .i64) 3 H (fl [[a], blk b, [r], d]) b v B ∧ H.heap[r]? = some (.cells #[Vi f.1, Vi f.2.1, Vi f.2.2.1, Vi f.2.2.2] 76 (0, 0)) ∧ SlR (eIt4) H (fl [[a], blk b, [r], d]) w x q) (fun Z => Z.1) (am, X, f.2.2.1) ⟨R, R, R, R, R, R, R, R, trivial⟩ ⟨aF, i, g, u, k, p, t, F, j⟩ ?_)
   rintro ⟨am, B, o⟩ af U ⟨al, i, g, u, k, p, t, F, j⟩
   rcases am with _ | am
   · exact (loopN_zero al).elim
   obtain ⟨co, c, al⟩ := bind_some al
   refine c_seq (c_sp (x_u 1 [(38, Vi o)] (x_fieldAddr (xv := Vp a 0) (Vp a 0) R R R (reads_field tfld52_0 _ _) (x_load (xv := Vp a 0) (Vi h) R R R (reads_box tcell3 p nn 0 _ R) (x_u 1 [(41, .bool (decide (o < h)))] (x_ek (c_nm [(3, Vp a 0), (7, .slice b (B).length v), (8, Vi A), (9, Vp r 0), (10, Vi o), (29, .slice w (q).length x), (30, Vi ((q).length : Int)), (31, Vi A), (41, .bool (decide (o < h)))] (fun af => ?_))))))))
   refine c_if (decide (o < h)) R c (fun c => ?_) (fun c => ?_)
   · refine c_skip (k_then (c_seq (c_block (c_sp (x_fieldAddr (xv := Vp a 0) (Vp a 1) R R R (reads_field tfld52_1 _ _) (x_load (xv := Vp a 1) (.slice D (C).length E) R R R (reads_box tcell22 p nn 1 _ R) (x_u 1 [(46, Vi A)] ?_)))))))
     obtain ⟨an, bO, c⟩ := bind_some c
     obtain ⟨a1, b7, bF, bu, L⟩ := reads_index (Mo := []) tsl22 k bO
     obtain rfl := L
     refine x_indexAddr (xv := .slice D (C).length E) (yv := Vi A) (.pointer (some a1)) R R R R bF (x_load (xv := .pointer (some a1)) (Vi an) R R R (reads_cell0 tcell3 bu (fun _ c => by cases c)) ?_)
     refine x_u 1 [(49, Vi o)] (x_binop (Vi (Int.fdiv an (2 ^ (min (Int.toNat (o)) i64.bits)))) (Vi an) (Vi o) R R R R (vb_shr (guard_l c)) ?_)
     replace c := guard_r c
     refine x_u 2 [(51, Vi (i64.wrap ↑(BitVec.ofInt i64.bits (Int.fdiv an (2 ^ (min (Int.toNat (o)) i64.bits))) &&& BitVec.ofInt i64.bits 1).toNat)), (52, .bool ((i64.wrap ↑(BitVec.ofInt i64.bits (Int.fdiv an (2 ^ (min (Int.toNat (o)) i64.bits))) &&& BitVec.ofInt i64.bits 1).toNat) == 1))] (x_ek (c_if ((i64.wrap ↑(BitVec.ofInt i64.bits (Int.fdiv an (2 ^ (min (Int.toNat (o)) i64.bits))) &&& BitVec.ofInt i64.bits 1).toNat) == 1) R c (fun c => ?_) (fun c => ?_)))
     · refine c_drawn [] [(0, false), (1, false), (2, false), (3, false), (4, false), (5, false), (6, false), (7, false), (8, true)] _ (by kernel_rfl) R ?_
       have m := Stp.ext (ls := [[a], blk b, [r], d]) (Ev.drew U)
       replace p := (Ev.drew U).box p nn
       replace k := k.step m
       replace t := t.step m (Ev.drew U) nn2
       replace F := (Ev.drew U).box F nn
       replace j := j.step m
       replace g := g.ev (Ev.drew U)
       replace i := i.ext (Ev.drew U)
       refine x_u 2 [(53, .slice b (B).length v), (54, Vi o)] ?_
       obtain ⟨ae, be, c⟩ := bind_some c
       obtain ⟨a4, b8, cc, bG, bv, L⟩ := own_index (Mo := []) tsl22 t be
       obtain rfl := L
       refine x_indexAddr (xv := .slice b (B).length v) (yv := Vi o) (.pointer (some ⟨a4, (Int.toNat o) * (eInt .i64).n, none⟩)) R R R R bG (x_load (xv := .pointer (some ⟨a4, (Int.toNat o) * (eInt .i64).n, none⟩)) (Vi ae) R R R (reads_cell0 tcell3 bv (fun _ c => by cases c)) ?_)
       refine x_fieldAddr (xv := Vp r 0) (Vp r 3) R R R (reads_field tfld76_3 _ _) (x_load (xv := Vp r 3) (Vi f.2.2.2) R R R (reads_box tcell3 F nn 3 _ R) (x_u 1 [(59, Vi (i64.wrap (ae + f.2.2.2)))] ?_))
       obtain ⟨cq, bf, c⟩ := bind_some c
       obtain ⟨a5, b9, bq, bH, ce, L⟩ := own_index (Mo := []) tsl22 t bf
       obtain rfl := L
       refine x_indexAddr (xv := .slice b (B).length v) (yv := Vi o) (.pointer (some ⟨a5, (Int.toNat o) * (eInt .i64).n, none⟩)) R R R R bH ?_
       have bi := be
       obtain ⟨bY, bI, au, bA⟩ := own_storeE bq (y := i64.wrap (ae + f.2.2.2)) 0 (Vi (i64.wrap (ae + f.2.2.2))) tcell3 t (mem_flat 1 R) bf R R (fun _ _ _ L => set_int L)
       refine x_store bY (xv := .pointer (some ⟨a5, (Int.toNat o) * (eInt .i64).n, none⟩)) (yv := Vi (i64.wrap (ae + f.2.2.2))) R R R R bI (inl1 ?_)
       have m := Stp.ev' (ls := [[a], blk b, [r], d]) au (mem_flat 1 R)
       replace p := au.box p (g.apart 0 1 R R R _ mem1)
       replace k := k.step m
       replace F := au.box F (g.apart 2 1 R R R _ mem1)
       replace j := j.step m
       replace g := g.ev au
       replace i := i.then au (fun G I => .inr (u.at 1 R G I))
       replace t := bA
       have ay : (Value.slice b (B).length v) = (Value.slice b ((B.set (Int.toNat o) (i64.wrap (ae + f.2.2.2)))).length v) := by first | (rw [List.length_set]; done) | simp only [List.length_set]
       try rw [ay]
       clear ay
       obtain ⟨_, bi⟩ : ∃ y, idx (B.set (Int.toNat o) (i64.wrap (ae + f.2.2.2))) o = some y := idx_set_any bi _ _
       refine x_end R (k_block (k_then (c_nm [(3, Vp a 0), (7, .slice b ((B.set (Int.toNat o) (i64.wrap (ae + f.2.2.2)))).length v), (8, Vi A), (9, Vp r 0), (10, Vi o), (29, .slice w (q).length x), (30, Vi ((q).length : Int)), (31, Vi A)] (fun af => ?_))))
       refine c_plain (x_u 3 [(42, Vi o), (43, Vi (i64.wrap (o + 1))), (10, Vi (i64.wrap (o + 1)))] (x_end R ?_))
       obtain rfl := some_inj c
       exact k_then ⟨(am, (B.set (Int.toNat o) (i64.wrap (ae + f.2.2.2))), i64.wrap (o + 1)), ⟨R, R, R, R, R, R, R, R, trivial⟩, ⟨al, i, g, u, k, p, t, F, j⟩, Nat.lt_succ_self _⟩
     refine c_skip (k_block (k_then (c_plain (x_u 3 [(42, Vi o), (43, Vi (i64.wrap (o + 1))), (10, Vi (i64.wrap (o + 1)))] (x_end R ?_)))))
     obtain rfl := some_inj c
     exact k_then ⟨(am, B, i64.wrap (o + 1)), ⟨R, R, R, R, R, R, R, R, trivial⟩, ⟨al, i, g, u, k, p, t, F, j⟩, Nat.lt_succ_self _⟩
   refine c_exit (k_then_exit ?_)
   obtain rfl := some_inj c
   have aS := some_inj al
   subst aS
   replace c := bp
   refine k_then_exit (k_block_in (k_then (c_nm [(3, Vp a 0), (7, .slice b (B).length v), (9, Vp r 0), (29, .slice w (q).length x), (30, Vi ((q).length : Int)), (31, Vi A)] (fun af => ?_))))
   refine c_drawn [] [(0, false), (1, false), (2, false), (3, false), (4, false), (5, false), (6, false), (7, false), (8, false), (9, false), (10, false), (11, false), (12, true)] _ (by kernel_rfl) R ?_
   have m := Stp.ext (ls := [[a], blk b, [r], d]) (Ev.drew U)
   replace p := (Ev.drew U).box p nn
   replace k := k.step m
   replace t := t.step m (Ev.drew U) nn2
   replace F := (Ev.drew U).box F nn
   replace j := j.step m
   replace g := g.ev (Ev.drew U)
   replace i := i.ext (Ev.drew U)
   refine x_u 1 [(61, .slice b (B).length v)] (x_fieldAddr (xv := Vp a 0) (Vp a 0) R R R (reads_field tfld52_0 _ _) (x_load (xv := Vp a 0) (Vi h) R R R (reads_box tcell3 p nn 0 _ R) (x_fieldAddr (xv := Vp r 0) (Vp r 0) R R R (reads_field tfld76_0 _ _) (x_load (xv := Vp r 0) (Vi f.1) R R R (reads_box tcell3 F nn 0 _ R) (x_u 1 [(66, Vi (i64.wrap (h + f.1)))] ?_)))))
   obtain ⟨ah, bg, c⟩ := bind_some c
   obtain ⟨a6, ca, cd, bJ, bw, L⟩ := own_index (Mo := []) tsl22 t bg
   obtain rfl := L
   refine x_indexAddr (xv := .slice b (B).length v) (yv := Vi (i64.wrap (h + f.1))) (.pointer (some ⟨a6, (Int.toNat (i64.wrap (h + f.1))) * (eInt .i64).n, none⟩)) R R R R bJ (x_load (xv := .pointer (some ⟨a6, (Int.toNat (i64.wrap (h + f.1))) * (eInt .i64).n, none⟩)) (Vi ah) R R R (reads_cell0 tcell3 bw (fun _ c => by cases c)) ?_)
   refine x_fieldAddr (xv := Vp r 0) (Vp r 3) R R R (reads_field tfld76_3 _ _) (x_load (xv := Vp r 3) (Vi f.2.2.2) R R R (reads_box tcell3 F nn 3 _ R) (x_u 1 [(71, Vi (i64.wrap (ah + f.2.2.2)))] ?_))
   obtain ⟨cr, bh, c⟩ := bind_some c
   obtain ⟨a7, cb, br, bK, cf, L⟩ := own_index (Mo := []) tsl22 t bh
   obtain rfl := L
   refine x_indexAddr (xv := .slice b (B).length v) (yv := Vi (i64.wrap (h + f.1))) (.pointer (some ⟨a7, (Int.toNat (i64.wrap (h + f.1))) * (eInt .i64).n, none⟩)) R R R R bK ?_
   have bj := bg
   obtain ⟨bZ, bL, aA, bB⟩ := own_storeE br (y := i64.wrap (ah + f.2.2.2)) 0 (Vi (i64.wrap (ah + f.2.2.2))) tcell3 t (mem_flat 1 R) bh R R (fun _ _ _ L => set_int L)
   refine x_store bZ (xv := .pointer (some ⟨a7, (Int.toNat (i64.wrap (h + f.1))) * (eInt .i64).n, none⟩)) (yv := Vi (i64.wrap (ah + f.2.2.2))) R R R R bL (inl1 ?_)
   have m := Stp.ev' (ls := [[a], blk b, [r], d]) aA (mem_flat 1 R)
   replace p := aA.box p (g.apart 0 1 R R R _ mem1)
   replace k := k.step m
   replace j := j.step m
   replace g := g.ev aA
   replace i := i.then aA (fun G I => .inr (u.at 1 R G I))
   replace t := bB
   have ay : (Value.slice b (B).length v) = (Value.slice b ((B.set (Int.toNat (i64.wrap (h + f.1))) (i64.wrap (ah + f.2.2.2)))).length v) := by first | (rw [List.length_set]; done) | simp only [List.length_set]
   try rw [ay]
   clear ay
   obtain ⟨_, bj⟩ : ∃ y, idx (B.set (Int.toNat (i64.wrap (h + f.1))) (i64.wrap (ah + f.2.2.2))) (i64.wrap (h + f.1)) = some y := idx_set_any bj _ _
   refine x_end R (k_block (k_then (c_plain (x_u 2 [(73, Vi (i64.wrap (A + 1))), (31, Vi (i64.wrap (A + 1)))] (x_end R ?_)))))
   obtain rfl := some_inj c
   have Y := g.pick [some 0, some 1, some 3] [[a], blk b, d] R
   have K := pick_sub (ls := [[a], blk b, [r], d]) [some 0, some 1, some 3] [[a], blk b, d] R
   replace k := k.sub K
   replace t := t.sub K
   replace j := j.sub K
   replace g := Y
   replace u := u.pick [some 0, some 1] [[a], blk b] R
   clear Y K
   exact k_then ⟨(az, (B.set (Int.toNat (i64.wrap (h + f.1))) (i64.wrap (ah + f.2.2.2))), i64.wrap (A + 1)), ⟨R, R, R, R, R, trivial⟩, ⟨ax, i, g, u, k, p, t, j⟩, Nat.lt_succ_self _⟩
 refine c_exit (k_then_exit ?_)
 obtain rfl := some_inj c
 have aS := some_inj ax
 subst aS
 replace c := bo
 refine k_then_exit (k_block_in (k_then (c_nm [(7, .slice b (X).length v)] (fun af => ?_))))
 refine c_sp (x_u 3 [(74, .slice b (X).length v), (4, .slice b (X).length v), (5, Vi 0)] (x_ek (c_ret (r_ret (r_vals [.slice b (X).length v, Vi 0] ⟨R, R, trivial⟩ ?_)))))
 obtain rfl := some_inj c
 have aI := g.pick [some 1, some 2] [blk b, d] R
 have K := pick_sub (ls := [[a], blk b, d]) [some 1, some 2] [blk b, d] R
 have aH := u.pick [some 1] [blk b] R
 exact ⟨b, v, R, i, aI, aH, t.sub K⟩
end Go.Proofs.YtlejnkhaphlooaaGreat
