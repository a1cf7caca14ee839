
/- Walks, printed by program: each function returns what the partial function of the same name returns. Conditions: those of each theorem. -/
import Derived.Test.YtlejnkhaphlooaaGreatGT
import Derived.Test.YtlejnkhaphlooaaGreatGr06
set_option linter.unusedVariables false
set_option linter.unusedSimpArgs false
set_option maxRecDepth 4000
namespace Go.Proofs.YtlejnkhaphlooaaGreat
open Go Go.V Go.Proofs Go.IntKind
def r17_Items_L22 (f : List (List (List UInt8))) (g : List ((List UInt8) × Int × Int × Int × Int × Int × Bool × (List UInt8))) (e : Int) (d : Int) (i : (List (Int × Int × Int × Int)) × Bool × Int) : Option (Step ((List (Int × Int × Int × Int)) × Bool × Int) ((List (Int × Int × Int × Int)) × Bool)) :=
match i with
| (b, c, a) =>
((idx f d).bind fun j =>
(if (decide (a < ((j).length : Int))) = true then
(if (!c) = true then
((idx f d).bind fun k =>
((idx k a).bind fun l =>
((idx g e).bind fun m =>
(if (l == m.2.2.2.2.2.2.2) = true then
((idx g e).bind fun h =>
(if b.length + ([(d, a, 0, h.2.1)] : List (Int × Int × Int × Int)).length ≤ 4294967296 then
some (.next ((b ++ ([(d, a, 0, h.2.1)] : List (Int × Int × Int × Int))), true, i64.wrap (a + 1)))
else none))
else
some (.next (b, c, i64.wrap (a + 1)))))))
else
some (.done (b, c)))
else
some (.done (b, c))))
def r17_Items_L20 (d : List (List (List UInt8))) (i : List ((List UInt8) × Int × Int × Int × Int × Int × Bool × (List UInt8))) (h : Int) (j : (List (Int × Int × Int × Int)) × Bool × Int) : Option (Step ((List (Int × Int × Int × Int)) × Bool × Int) ((List (Int × Int × Int × Int)) × Bool)) :=
match j with
| (b, a, c) =>
(if (decide (c < ((d).length : Int))) = true then
(if (!a) = true then
((loop (r17_Items_L22 d i h c) (b, a, 0)).bind fun e => match e with
| (f, g) => some (.next (f, g, i64.wrap (c + 1))))
else
some (.done (b, a)))
else
some (.done (b, a)))
def r17_Items_L11 (i : List (List (List UInt8))) (c : List ((List UInt8) × Int × Int × Int × Int × Int × Bool × (List UInt8))) (j : (List (Int × Int × Int × Int)) × Int) : Option (Step ((List (Int × Int × Int × Int)) × Int) (Int ⊕ (List (Int × Int × Int × Int)))) :=
match j with
| (d, b) =>
(if (decide (b < ((c).length : Int))) = true then
((idx c b).bind fun a =>
((r06_Valid a.1 a.2.1 a.2.2.1 a.2.2.2.1 a.2.2.2.2.1 a.2.2.2.2.2.1 a.2.2.2.2.2.2.1 a.2.2.2.2.2.2.2).bind fun e =>
(if (e != 0) = true then
some (.done (.inl e))
else
((loop (r17_Items_L20 i c b) (d, false, 0)).bind fun f => match f with
| (g, h) => (if (!h) = true then
some (.done (.inl 13))
else
some (.next (g, i64.wrap (b + 1))))))))
else
some (.done (.inr d)))
def r17_Items_L5 (b : List (List (List UInt8))) (c : Int) : Option (Step Int (Unit ⊕ Unit)) :=
match c with
| a =>
(if (decide (a < ((b).length : Int))) = true then
((idx b a).bind fun d =>
(if (decide (((d).length : Int) > 32)) = true then
some (.done (.inl ()))
else
some (.next (i64.wrap (a + 1)))))
else
some (.done (.inr ())))
def r17_Items (b : List (List (List UInt8))) (c : List ((List UInt8) × Int × Int × Int × Int × Int × Bool × (List UInt8))) : Option ((List (Int × Int × Int × Int)) × Int) :=
(if (decide (((b).length : Int) > 16)) = true then
some ([], 3)
else
(if (decide (((c).length : Int) > 96)) = true then
some ([], 3)
else
((loop (r17_Items_L5 b) 0).bind fun a => match a with
| (.inl _) => some ([], 3)
| (.inr _) => ((loop (r17_Items_L11 b c) (([] : List (Int × Int × Int × Int)), 0)).bind fun a => match a with
| (.inl e) => some ([], e)
| (.inr d) => some (d, 0)))))
theorem r17_Items_w (h : Option Addr) (j : Nat) (b : List (List (List UInt8))) (k : Option Addr) (m : Nat) (d : List ((List UInt8) × Int × Int × Int × Int × Int × Bool × (List UInt8))) (ay : (List (Int × Int × Int × Int)) × Int) (D : World) (f : List Nat) (n : MS D [f]) (p : SlR (eSl eStr) D (fl [f]) h j b) (q : SlR (eProd eStr (eProd (eInt .i64) (eProd (eInt .i64) (eProd (eInt .i64) (eProd (eInt .i64) (eProd (eInt .i64) (eProd eBool eStr))))))) D (fl [f]) k m d) (a : r17_Items b d = some ay) : CallVC Tryz.prog 16 [Vl h b j, Vl k d m] D fun a7 s => ∃ (ah : Option Addr), ∃ (aQ : Nat), a7 = .tuple #[Vl ah ay.1 aQ, Vi ay.2] ∧ Ev [] D s ∧ MS s [blk ah, f] ∧ FR D.heap.size [blk ah] ∧ OwnS (eIt4) 76 s (fl [blk ah, f]) ah aQ ay.1 := by
 refine calls_vc hmx Tryz.func16 (by kernel_rfl) R (rs := [.tmp 4, .tmp 5]) R (by kernel_rfl) (args := [Vl h b j, Vl k d m]) R ?_
 have o : Ev [] D D := Ev.refl _ _
 have r : FR D.heap.size [] := FR.nil _
 refine c_sp (x_u 2 [(4, .slice none 0 0), (5, Vi 0)] (x_ek (c_seq (c_sp (x_u 1 [(13, Vl h b j)] (x_len (vs := [Vl h b j]) (Vi ((b).length : Int)) R R R (reads_len tsl23 _ _ _ _ _) (x_u 2 [(15, .bool (decide (((b).length : Int) > 16))), (16, .bool (decide (((b).length : Int) > 16)))] (x_if 16 (decide (((b).length : Int) > 16)) R a (fun a => ?_) (fun a => ?_)))))))))
 · refine x_u 4 [(17, undef), (18, undef), (19, undef), (20, .bool true)] (x_ek (c_true R (c_sp (x_u 2 [(4, .slice none 0 0), (5, Vi 3)] (x_ek (c_ret (k_then_ret (r_ret (r_vals [.slice none 0 0, Vi 3] ⟨R, R, trivial⟩ ?_)))))))))
   obtain rfl := some_inj a
   have L := n.pick [none, some 0] [blk none, f] R
   have K := r.pick [none] [blk none] R
   exact ⟨none, 0, R, o, L, K, OwnS.nil _ _ _ _⟩
 refine x_u 1 [(17, Vl k d m)] (x_len (vs := [Vl k d m]) (Vi ((d).length : Int)) R R R (reads_len tsl24 _ _ _ _ _) (x_u 2 [(19, .bool (decide (((d).length : Int) > 96))), (20, .bool (decide (((d).length : Int) > 96)))] (x_ek (c_if (decide (((d).length : Int) > 96)) R a (fun a => ?_) (fun a => ?_)))))
 · refine c_sp (x_u 2 [(4, .slice none 0 0), (5, Vi 3)] (x_ek (c_nm [(4, .slice none 0 0), (5, Vi 3)] (fun A => ?_))))
   refine c_ret (k_then_ret (r_ret (r_vals [.slice none 0 0, Vi 3] ⟨R, R, trivial⟩ ?_)))
   obtain rfl := some_inj a
   have L := n.pick [none, some 0] [blk none, f] R
   have K := r.pick [none] [blk none] R
   exact ⟨none, 0, R, o, L, K, OwnS.nil _ _ _ _⟩
 refine c_skip (k_then (c_seq (c_sp (x_u 1 [(6, Vi 0)] (x_ek (c_block ?_))))))
 obtain ⟨be, aE, a0⟩ := bind_some a
 obtain ⟨ak, aE⟩ := loop_some aE
 refine c_loop (loop_rule hmx (σ := Nat × Int) (fun v => match v with | (_, G) => [(0, Vl h b j), (1, Vl k d m), (6, Vi G)]) (fun v s => match v with | (aa, G) => loopN (r17_Items_L5 b) aa G = some be ∧ Ev [] D s ∧ MS s [f] ∧ FR D.heap.size [] ∧ SlR (eSl eStr) s (fl [f]) h j b ∧ SlR (eProd eStr (eProd (eInt .i64) (eProd (eInt .i64) (eProd (eInt .i64) (eProd (eInt .i64) (eProd (eInt .i64) (eProd eBool eStr))))))) s (fl [f]) k m d) (fun v => v.1) (ak, 0) ⟨R, R, R, trivial⟩ ⟨aE, o, n, r, p, q⟩ ?_)
 rintro ⟨ak, G⟩ A a9 ⟨ac, o, n, r, p, q⟩
 rcases ak with _ | ak
 · exact (loopN_zero ac).elim
 obtain ⟨b3, a, ac⟩ := bind_some ac
 refine c_seq (c_sp (x_u 2 [(21, Vi G), (22, Vl h b j)] (x_len (vs := [Vl h b j]) (Vi ((b).length : Int)) R R R (reads_len tsl23 _ _ _ _ _) (x_u 1 [(24, .bool (decide (G < ((b).length : Int))))] (x_ek (c_nm [(0, Vl h b j), (1, Vl k d m), (6, Vi G), (24, .bool (decide (G < ((b).length : Int))))] (fun A => ?_)))))))
 refine c_if (decide (G < ((b).length : Int))) R a (fun a => ?_) (fun a => ?_)
 · refine c_skip (k_then (c_seq (c_block (c_sp (x_u 2 [(27, Vl h b j), (28, Vi G)] ?_)))))
   obtain ⟨an, bH, a⟩ := bind_some a
   obtain ⟨au, bS, bw, bl, J⟩ := reads_index (Mo := []) tsl23 p bH
   obtain ⟨aK, aX, rfl, bY⟩ := J
   refine x_indexAddr (xv := Vl h b j) (yv := Vi G) (.pointer (some au)) R R R R bw (x_fieldAddr (xv := .pointer (some au)) (.pointer (some (Addr.add au 0))) R R R (reads_field tfld31_0 _ _) (x_load (xv := .pointer (some (Addr.add au 0))) (Vl aK an aX) R R R (reads_cell tcell29 bl (fun _ a => by cases a) 0 _ R) ?_))
   refine x_len (vs := [Vl aK an aX]) (Vi ((an).length : Int)) R R R (reads_len tsl29 _ _ _ _ _) (x_u 1 [(33, .bool (decide (((an).length : Int) > 32)))] (x_ek (c_if (decide (((an).length : Int) > 32)) R a (fun a => ?_) (fun a => ?_))))
   · refine c_sp (x_u 2 [(4, .slice none 0 0), (5, Vi 3)] (x_ek (c_ret (k_block_ret (k_then_ret ?_)))))
     obtain rfl := some_inj a
     have z := some_inj ac
     subst z
     replace a := a0
     refine k_then_ret (k_block_ret (k_then_ret (r_ret (r_vals [.slice none 0 0, Vi 3] ⟨R, R, trivial⟩ ?_))))
     obtain rfl := some_inj a
     have L := n.pick [none, some 0] [blk none, f] R
     have K := r.pick [none] [blk none] R
     exact ⟨none, 0, R, o, L, K, OwnS.nil _ _ _ _⟩
   refine c_skip (k_block (k_then (c_plain (x_u 3 [(25, Vi G), (26, Vi (i64.wrap (G + 1))), (6, Vi (i64.wrap (G + 1)))] (x_end R ?_)))))
   obtain rfl := some_inj a
   exact k_then ⟨(ak, i64.wrap (G + 1)), ⟨R, R, R, trivial⟩, ⟨ac, o, n, r, p, q⟩, Nat.lt_succ_self _⟩
 refine c_exit (k_then_exit ?_)
 obtain rfl := some_inj a
 have z := some_inj ac
 subst z
 replace a := a0
 refine k_then_exit (k_block_in (k_then (c_nm [(0, Vl h b j), (1, Vl k d m)] (fun A => ?_))))
 refine c_sp (x_u 1 [(7, .slice none 0 0)] (x_ek (c_seq (c_sp (x_u 1 [(8, Vi 0)] (x_ek (c_block ?_)))))))
 have C := Stp.push (ls := [f]) (l := blk none) (Ev.refl [] a9) (fun _ a => by cases a) (fun _ a => by cases a)
 replace p := p.step C
 replace q := q.step C
 replace n := n.push (l := blk none) (Ev.refl [] _) (fun _ a => by cases a)
 replace r := r.push (l := blk none) (fun _ a => by cases a)
 have bn := OwnS.nil (eIt4) 76 a9 (fl [blk none, f])
 obtain ⟨bb, aB, av⟩ := bind_some a
 obtain ⟨ad, aB⟩ := loop_some aB
 refine c_loop (loop_rule hmx (σ := Nat × (List (Int × Int × Int × Int)) × Int × Option Addr × Nat) (fun v => match v with | (_, S, g, w, O) => [(0, Vl h b j), (1, Vl k d m), (7, Vl w S O), (8, Vi g)]) (fun v s => match v with | (aa, S, g, w, O) => loopN (r17_Items_L11 b d) aa (S, g) = some bb ∧ Ev [] D s ∧ MS s [blk w, f] ∧ FR D.heap.size [blk w] ∧ SlR (eSl eStr) s (fl [blk w, f]) h j b ∧ SlR (eProd eStr (eProd (eInt .i64) (eProd (eInt .i64) (eProd (eInt .i64) (eProd (eInt .i64) (eProd (eInt .i64) (eProd eBool eStr))))))) s (fl [blk w, f]) k m d ∧ OwnS (eIt4) 76 s (fl [blk w, f]) w O S) (fun v => v.1) (ad, ([] : List (Int × Int × Int × Int)), 0, none, 0) ⟨R, R, R, R, trivial⟩ ⟨aB, o, n, r, p, q, bn⟩ ?_)
 rintro ⟨ad, S, g, w, O⟩ A bI ⟨U, o, n, r, p, q, y⟩
 rcases ad with _ | ad
 · exact (loopN_zero U).elim
 obtain ⟨b0, a, U⟩ := bind_some U
 refine c_seq (c_sp (x_u 2 [(34, Vi g), (35, Vl k d m)] (x_len (vs := [Vl k d m]) (Vi ((d).length : Int)) R R R (reads_len tsl24 _ _ _ _ _) (x_u 1 [(37, .bool (decide (g < ((d).length : Int))))] (x_ek (c_nm [(0, Vl h b j), (1, Vl k d m), (7, Vl w S O), (8, Vi g), (37, .bool (decide (g < ((d).length : Int))))] (fun A => ?_)))))))
 refine c_if (decide (g < ((d).length : Int))) R a (fun a => ?_) (fun a => ?_)
 · refine c_skip (k_then (c_seq (c_block (c_seq (c_sp (x_u 2 [(40, Vl k d m), (41, Vi g)] ?_))))))
   obtain ⟨t, bB, a⟩ := bind_some a
   obtain ⟨aL, bJ, bp, bf, J⟩ := reads_index (Mo := []) tsl24 q bB
   obtain ⟨_, _, rfl, rfl, ⟨_, _, rfl, rfl, ⟨_, _, rfl, rfl, ⟨_, _, rfl, rfl, ⟨_, _, rfl, rfl, ⟨_, _, rfl, rfl, ⟨_, _, rfl, rfl, rfl⟩⟩⟩⟩⟩⟩⟩ := J
   refine x_indexAddr (xv := Vl k d m) (yv := Vi g) (.pointer (some aL)) R R R R bp (x_load (xv := .pointer (some aL)) (.agg #[Vs t.1, Vi t.2.1, Vi t.2.2.1, Vi t.2.2.2.1, Vi t.2.2.2.2.1, Vi t.2.2.2.2.2.1, .bool t.2.2.2.2.2.2.1, Vs t.2.2.2.2.2.2.2]) R R R (reads_agg tagg34 bf (fun _ a => by cases a)) ?_)
   obtain ⟨ab, a6, a⟩ := bind_some a
   have a2 := r06_Valid_w t.1 t.2.1 t.2.2.1 t.2.2.2.1 t.2.2.2.2.1 t.2.2.2.2.2.1 t.2.2.2.2.2.2.1 t.2.2.2.2.2.2.2 _ bI a6
   refine x_call 45 #[] #[] [.agg #[Vs t.1, Vi t.2.1, Vi t.2.2.1, Vi t.2.2.2.1, Vi t.2.2.2.2.1, Vi t.2.2.2.2.2.1, .bool t.2.2.2.2.2.2.1, Vs t.2.2.2.2.2.2.2]] _ R R R R a2 ?_
   rintro a7 b4 ⟨rfl, aw⟩
   clear a2 a6
   refine inl1 ?_
   have C := Stp.ext (ls := [blk w, f]) aw
   replace p := p.step C
   replace q := q.step C
   replace y := y.step C aw nn2
   replace n := n.ev aw
   replace o := o.ext aw
   refine x_u 1 [(9, Vi ab)] (x_ek (c_sp (x_u 2 [(45, Vi ab), (46, .bool (ab != 0))] (x_ek (c_if (ab != 0) R a (fun a => ?_) (fun a => ?_))))))
   · refine c_sp (x_u 3 [(47, Vi ab), (4, .slice none 0 0), (5, Vi ab)] (x_ek (c_ret (k_then_ret (k_block_ret (k_then_ret ?_))))))
     obtain rfl := some_inj a
     have z := some_inj U
     subst z
     replace a := av
     refine k_then_ret (k_block_ret (k_then_ret (r_ret (r_vals [.slice none 0 0, Vi ab] ⟨R, R, trivial⟩ ?_))))
     obtain rfl := some_inj a
     have L := n.pick [none, some 1] [blk none, f] R
     have K := r.pick [none] [blk none] R
     exact ⟨none, 0, R, o, L, K, OwnS.nil _ _ _ _⟩
   refine c_skip (k_then (c_sp (x_u 1 [(10, .bool false)] (x_ek (c_seq (c_sp (x_u 1 [(11, Vi 0)] (x_ek (c_block ?_)))))))))
   obtain ⟨bc, aC, aY⟩ := bind_some a
   obtain ⟨ae, aC⟩ := loop_some aC
   refine c_loop (loop_rule hmx (σ := Nat × (List (Int × Int × Int × Int)) × Bool × Int × Option Addr × Nat) (fun v => match v with | (_, N, x, e, F, Q) => [(0, Vl h b j), (1, Vl k d m), (7, Vl F N Q), (8, Vi g), (10, .bool x), (11, Vi e)]) (fun v s => match v with | (aa, N, x, e, F, Q) => loopN (r17_Items_L20 b d g) aa (N, x, e) = some bc ∧ Ev [] D s ∧ MS s [blk F, f] ∧ FR D.heap.size [blk F] ∧ SlR (eSl eStr) s (fl [blk F, f]) h j b ∧ SlR (eProd eStr (eProd (eInt .i64) (eProd (eInt .i64) (eProd (eInt .i64) (eProd (eInt .i64) (eProd (eInt .i64) (eProd eBool eStr))))))) s (fl [blk F, f]) k m d ∧ OwnS (eIt4) 76 s (fl [blk F, f]) F Q N) (fun v => v.1) (ae, S, false, 0, w, O) ⟨R, R, R, R, R, R, trivial⟩ ⟨aC, o, n, r, p, q, y⟩ ?_)
   rintro ⟨ae, N, x, e, F, Q⟩ A b5 ⟨Y, o, n, r, p, q, y⟩
   rcases ae with _ | ae
   · exact (loopN_zero Y).elim
   obtain ⟨b1, a, Y⟩ := bind_some Y
   refine c_seq (c_sp (x_u 2 [(48, Vi e), (49, Vl h b j)] (x_len (vs := [Vl h b j]) (Vi ((b).length : Int)) R R R (reads_len tsl23 _ _ _ _ _) (x_u 2 [(51, .bool (decide (e < ((b).length : Int)))), (52, .bool (decide (e < ((b).length : Int))))] (x_if 52 (decide (e < ((b).length : Int))) R a (fun a => ?_) (fun a => ?_))))))
   · refine x_u 3 [(53, .bool x), (54, .bool (!x)), (55, .bool (!x))] (x_ek (c_nm [(0, Vl h b j), (1, Vl k d m), (7, Vl F N Q), (8, Vi g), (10, .bool x), (11, Vi e), (55, .bool (!x))] (fun A => ?_)))
     refine c_if (!x) R a (fun a => ?_) (fun a => ?_)
     · refine c_skip (k_then (c_seq (c_block (c_sp (x_u 1 [(12, Vi 0)] (x_ek (c_block ?_)))))))
       obtain ⟨bd, aD, aZ⟩ := bind_some a
       obtain ⟨af, aD⟩ := loop_some aD
       refine c_loop (loop_rule hmx (σ := Nat × (List (Int × Int × Int × Int)) × Bool × Int × Option Addr × Nat) (fun v => match v with | (_, B, E, i, u, I) => [(0, Vl h b j), (1, Vl k d m), (7, Vl u B I), (8, Vi g), (10, .bool E), (11, Vi e), (12, Vi i)]) (fun v s => match v with | (aa, B, E, i, u, I) => loopN (r17_Items_L22 b d g e) aa (B, E, i) = some bd ∧ Ev [] D s ∧ MS s [blk u, f] ∧ FR D.heap.size [blk u] ∧ SlR (eSl eStr) s (fl [blk u, f]) h j b ∧ SlR (eProd eStr (eProd (eInt .i64) (eProd (eInt .i64) (eProd (eInt .i64) (eProd (eInt .i64) (eProd (eInt .i64) (eProd eBool eStr))))))) s (fl [blk u, f]) k m d ∧ OwnS (eIt4) 76 s (fl [blk u, f]) u I B) (fun v => v.1) (af, N, x, 0, F, Q) ⟨R, R, R, R, R, R, R, trivial⟩ ⟨aD, o, n, r, p, q, y⟩ ?_)
       rintro ⟨af, B, E, i, u, I⟩ A az ⟨Z, o, n, r, p, q, y⟩
       rcases af with _ | af
       · exact (loopN_zero Z).elim
       obtain ⟨b2, a, Z⟩ := bind_some Z
       refine c_seq (c_sp (x_u 3 [(58, Vi i), (59, Vl h b j), (60, Vi e)] ?_))
       obtain ⟨ag, bC, a⟩ := bind_some a
       obtain ⟨ao, bK, bq, bg, J⟩ := reads_index (Mo := []) tsl23 p bC
       obtain ⟨aI, aS, rfl, bX⟩ := J
       refine x_indexAddr (xv := Vl h b j) (yv := Vi e) (.pointer (some ao)) R R R R bq (x_fieldAddr (xv := .pointer (some ao)) (.pointer (some (Addr.add ao 0))) R R R (reads_field tfld31_0 _ _) (x_load (xv := .pointer (some (Addr.add ao 0))) (Vl aI ag aS) R R R (reads_cell tcell29 bg (fun _ a => by cases a) 0 _ R) ?_))
       refine x_len (vs := [Vl aI ag aS]) (Vi ((ag).length : Int)) R R R (reads_len tsl29 _ _ _ _ _) (x_u 2 [(65, .bool (decide (i < ((ag).length : Int)))), (66, .bool (decide (i < ((ag).length : Int))))] (x_if 66 (decide (i < ((ag).length : Int))) R a (fun a => ?_) (fun a => ?_)))
       · refine x_u 3 [(67, .bool E), (68, .bool (!E)), (69, .bool (!E))] (x_ek (c_nm [(0, Vl h b j), (1, Vl k d m), (7, Vl u B I), (8, Vi g), (10, .bool E), (11, Vi e), (12, Vi i), (69, .bool (!E))] (fun A => ?_)))
         refine c_if (!E) R a (fun a => ?_) (fun a => ?_)
         · refine c_skip (k_then (c_seq (c_block (c_seq (c_drawn [] [(0, false), (1, false), (2, false), (3, false), (4, false), (5, false), (6, false), (7, false), (8, false), (9, false), (10, false), (11, false), (12, false), (13, false)] _ (by kernel_rfl) R ?_)))))
           have C := Stp.ext (ls := [blk u, f]) (Ev.drew az)
           replace p := p.step C
           replace q := q.step C
           replace y := y.step C (Ev.drew az) nn2
           replace n := n.ev (Ev.drew az)
           replace o := o.ext (Ev.drew az)
           refine x_u 2 [(72, Vl h b j), (73, Vi e)] ?_
           obtain ⟨ba, bD, a⟩ := bind_some a
           obtain ⟨ap, bL, br, bh, J⟩ := reads_index (Mo := []) tsl23 p bD
           obtain ⟨aJ, aU, rfl, bx⟩ := J
           refine x_indexAddr (xv := Vl h b j) (yv := Vi e) (.pointer (some ap)) R R R R br (x_fieldAddr (xv := .pointer (some ap)) (.pointer (some (Addr.add ap 0))) R R R (reads_field tfld31_0 _ _) (x_load (xv := .pointer (some (Addr.add ap 0))) (Vl aJ ba aU) R R R (reads_cell tcell29 bh (fun _ a => by cases a) 0 _ R) ?_))
           refine x_u 1 [(77, Vi i)] ?_
           obtain ⟨al, bE, a⟩ := bind_some a
           obtain ⟨aN, bN, bs, bi, J⟩ := reads_index (Mo := []) tsl29 bx bE
           obtain rfl := J
           refine x_indexAddr (xv := Vl aJ ba aU) (yv := Vi i) (.pointer (some aN)) R R R R bs (x_load (xv := .pointer (some aN)) (Vs al) R R R (reads_cell0 tcell9 bi (fun _ a => by cases a)) ?_)
           refine x_u 2 [(80, Vl k d m), (81, Vi g)] ?_
           obtain ⟨am, bF, a⟩ := bind_some a
           obtain ⟨aq, bO, bt, bj, J⟩ := reads_index (Mo := []) tsl24 q bF
           obtain ⟨_, _, rfl, rfl, ⟨_, _, rfl, rfl, ⟨_, _, rfl, rfl, ⟨_, _, rfl, rfl, ⟨_, _, rfl, rfl, ⟨_, _, rfl, rfl, ⟨_, _, rfl, rfl, rfl⟩⟩⟩⟩⟩⟩⟩ := J
           refine x_indexAddr (xv := Vl k d m) (yv := Vi g) (.pointer (some aq)) R R R R bt (x_fieldAddr (xv := .pointer (some aq)) (.pointer (some (Addr.add aq 7))) R R R (reads_field tfld34_7 _ _) (x_load (xv := .pointer (some (Addr.add aq 7))) (Vs am.2.2.2.2.2.2.2) R R R (reads_cell tcell9 bj (fun _ a => by cases a) 7 _ R) ?_))
           refine x_binop (.bool (al == am.2.2.2.2.2.2.2)) (Vs al) (Vs am.2.2.2.2.2.2.2) R R R R (bin_seq) (x_ek (c_nm [(0, Vl h b j), (1, Vl k d m), (7, Vl u B I), (8, Vi g), (10, .bool E), (11, Vi e), (12, Vi i), (85, .bool (al == am.2.2.2.2.2.2.2))] (fun A => ?_)))
           refine c_if (al == am.2.2.2.2.2.2.2) R a (fun a => ?_) (fun a => ?_)
           · refine c_sp (x_u 5 [(86, Vl u B I), (87, Vi e), (88, Vi i), (89, Vl k d m), (90, Vi g)] ?_)
             obtain ⟨H, bG, a⟩ := bind_some a
             obtain ⟨ar, bQ, bu, bk, J⟩ := reads_index (Mo := []) tsl24 q bG
             obtain ⟨_, _, rfl, rfl, ⟨_, _, rfl, rfl, ⟨_, _, rfl, rfl, ⟨_, _, rfl, rfl, ⟨_, _, rfl, rfl, ⟨_, _, rfl, rfl, ⟨_, _, rfl, rfl, rfl⟩⟩⟩⟩⟩⟩⟩ := J
             refine x_indexAddr (xv := Vl k d m) (yv := Vi g) (.pointer (some ar)) R R R R bu (x_fieldAddr (xv := .pointer (some ar)) (.pointer (some (Addr.add ar 1))) R R R (reads_field tfld34_1 _ _) (x_load (xv := .pointer (some (Addr.add ar 1))) (Vi H.2.1) R R R (reads_cell tcell3 bk (fun _ a => by cases a) 1 _ R) ?_))
             refine x_build (vs := [(0, Vi e), (1, Vi i), (3, Vi H.2.1)]) (.agg #[Vi e, Vi i, Vi 0, Vi H.2.1]) R R R (fun _ _ => by kernel_rfl) ?_
             refine x_buildSlice (vs := [(0, .agg #[Vi e, Vi i, Vi 0, Vi H.2.1])]) #[Vi e, Vi i, Vi 0, Vi H.2.1] 76 R R R (by kernel_rfl) (fun aO a8 bo a1 ax bZ => ?_)
             refine inl1 ?_
             have a4 := n
             have C := Stp.ext (ls := [blk u, f]) ax
             replace p := p.step C
             replace q := q.step C
             replace y := y.step C ax nn2
             replace n := n.ev ax
             replace o := o.ext ax
             have bz : SlR (eIt4) a8 (fl [blk u, f]) (Ad aO 0) 1 ([(e, i, 0, H.2.1)] : List (Int × Int × Int × Int)) := ro_of_box a4 bo a1 R R (cells_at (cs := [Vi e, Vi i, Vi 0, Vi H.2.1]) (CellsOf.cons (c := [Vi e, Vi i, Vi 0, Vi H.2.1]) ⟨[Vi e], [Vi i, Vi 0, Vi H.2.1], R, R, ⟨[Vi i], [Vi 0, Vi H.2.1], R, R, ⟨[Vi 0], [Vi H.2.1], R, R, R⟩⟩⟩ CellsOf.nil))
             clear a1 a4
             have bm := guard_l a
             replace a := guard_r a
             obtain ⟨X, aA, aH, bv, aF, aG, bU, a5⟩ := own_appendN tel36 36 y (mem_flat 0 R) bz bm
             refine x_builtin (vs := [Vl u B I, .slice (Ad aO 0) (([(e, i, 0, H.2.1)] : List (Int × Int × Int × Int))).length 1]) _ aH R R R R (run_value _ _ _ _ bv) (inl1 ?_)
             have C : Stp (fl [blk u, f]) a8 (fl [blk X, f]) aH := Stp.upd 0 aF R (fun ai aj => (aG ai aj).1)
             replace p := p.step C
             replace q := q.step C
             replace n : MS aH [blk X, f] := n.upd 0 aF R aG
             have a3 : FR D.heap.size [blk X] := r.upd 0 R o.size (fun ai aj => (aG ai aj).1)
             replace o := o.then aF (fun ai aj => .inr (r.at 0 R ai aj))
             replace r := a3
             clear a3
             replace y := a5 (fl [blk X, f]) C.new
             clear a5
             refine x_u 1 [(7, .slice X ((B ++ ([(e, i, 0, H.2.1)] : List (Int × Int × Int × Int)))).length aA)] (x_ek (c_plain (x_u 1 [(10, .bool true)] (x_end R (k_block (k_then (c_nm [(0, Vl h b j), (1, Vl k d m), (7, .slice X ((B ++ ([(e, i, 0, H.2.1)] : List (Int × Int × Int × Int)))).length aA), (8, Vi g), (10, .bool true), (11, Vi e), (12, Vi i)] (fun A => ?_))))))))
             refine c_plain (x_u 3 [(70, Vi i), (71, Vi (i64.wrap (i + 1))), (12, Vi (i64.wrap (i + 1)))] (x_end R ?_))
             obtain rfl := some_inj a
             exact k_then ⟨(af, (B ++ ([(e, i, 0, H.2.1)] : List (Int × Int × Int × Int))), true, i64.wrap (i + 1), X, aA), ⟨R, R, R, R, R, R, R, trivial⟩, ⟨Z, o, n, r, p, q, y⟩, Nat.lt_succ_self _⟩
           refine c_skip (k_block (k_then (c_plain (x_u 3 [(70, Vi i), (71, Vi (i64.wrap (i + 1))), (12, Vi (i64.wrap (i + 1)))] (x_end R ?_)))))
           obtain rfl := some_inj a
           exact k_then ⟨(af, B, E, i64.wrap (i + 1), u, I), ⟨R, R, R, R, R, R, R, trivial⟩, ⟨Z, o, n, r, p, q, y⟩, Nat.lt_succ_self _⟩
         refine c_exit (k_then_exit ?_)
         obtain rfl := some_inj a
         have z := some_inj Z
         subst z
         replace a := aZ
         refine k_then_exit (k_block_in (k_block (k_then (c_nm [(0, Vl h b j), (1, Vl k d m), (7, Vl u B I), (8, Vi g), (10, .bool E), (11, Vi e)] (fun A => ?_)))))
         refine c_plain (x_u 3 [(56, Vi e), (57, Vi (i64.wrap (e + 1))), (11, Vi (i64.wrap (e + 1)))] (x_end R ?_))
         obtain rfl := some_inj a
         exact k_then ⟨(ae, B, E, i64.wrap (e + 1), u, I), ⟨R, R, R, R, R, R, trivial⟩, ⟨Y, o, n, r, p, q, y⟩, Nat.lt_succ_self _⟩
       refine x_u 3 [(67, undef), (68, undef), (69, .bool false)] (x_ek (c_nm [(0, Vl h b j), (1, Vl k d m), (7, Vl u B I), (8, Vi g), (10, .bool E), (11, Vi e), (12, Vi i), (69, .bool false)] (fun A => ?_)))
       refine c_false R (c_exit (k_then_exit ?_))
       obtain rfl := some_inj a
       have z := some_inj Z
       subst z
       replace a := aZ
       refine k_then_exit (k_block_in (k_block (k_then (c_nm [(0, Vl h b j), (1, Vl k d m), (7, Vl u B I), (8, Vi g), (10, .bool E), (11, Vi e)] (fun A => ?_)))))
       refine c_plain (x_u 3 [(56, Vi e), (57, Vi (i64.wrap (e + 1))), (11, Vi (i64.wrap (e + 1)))] (x_end R ?_))
       obtain rfl := some_inj a
       exact k_then ⟨(ae, B, E, i64.wrap (e + 1), u, I), ⟨R, R, R, R, R, R, trivial⟩, ⟨Y, o, n, r, p, q, y⟩, Nat.lt_succ_self _⟩
     refine c_exit (k_then_exit ?_)
     obtain rfl := some_inj a
     have z := some_inj Y
     subst z
     replace a := aY
     refine k_then_exit (k_block_in (k_then (c_nm [(0, Vl h b j), (1, Vl k d m), (7, Vl F N Q), (8, Vi g), (10, .bool x)] (fun A => ?_))))
     refine c_sp (x_u 2 [(97, .bool x), (98, .bool (!x))] (x_ek (c_if (!x) R a (fun a => ?_) (fun a => ?_))))
     · refine c_sp (x_u 2 [(4, .slice none 0 0), (5, Vi 13)] (x_ek (c_ret (k_block_ret (k_then_ret ?_)))))
       obtain rfl := some_inj a
       have z := some_inj U
       subst z
       replace a := av
       refine k_then_ret (k_block_ret (k_then_ret (r_ret (r_vals [.slice none 0 0, Vi 13] ⟨R, R, trivial⟩ ?_))))
       obtain rfl := some_inj a
       have L := n.pick [none, some 1] [blk none, f] R
       have K := r.pick [none] [blk none] R
       exact ⟨none, 0, R, o, L, K, OwnS.nil _ _ _ _⟩
     refine c_skip (k_block (k_then (c_plain (x_u 3 [(38, Vi g), (39, Vi (i64.wrap (g + 1))), (8, Vi (i64.wrap (g + 1)))] (x_end R ?_)))))
     obtain rfl := some_inj a
     exact k_then ⟨(ad, N, i64.wrap (g + 1), F, Q), ⟨R, R, R, R, trivial⟩, ⟨U, o, n, r, p, q, y⟩, Nat.lt_succ_self _⟩
   refine x_u 3 [(53, undef), (54, undef), (55, .bool false)] (x_ek (c_nm [(0, Vl h b j), (1, Vl k d m), (7, Vl F N Q), (8, Vi g), (10, .bool x), (11, Vi e), (55, .bool false)] (fun A => ?_)))
   refine c_false R (c_exit (k_then_exit ?_))
   obtain rfl := some_inj a
   have z := some_inj Y
   subst z
   replace a := aY
   refine k_then_exit (k_block_in (k_then (c_nm [(0, Vl h b j), (1, Vl k d m), (7, Vl F N Q), (8, Vi g), (10, .bool x)] (fun A => ?_))))
   refine c_sp (x_u 2 [(97, .bool x), (98, .bool (!x))] (x_ek (c_if (!x) R a (fun a => ?_) (fun a => ?_))))
   · refine c_sp (x_u 2 [(4, .slice none 0 0), (5, Vi 13)] (x_ek (c_ret (k_block_ret (k_then_ret ?_)))))
     obtain rfl := some_inj a
     have z := some_inj U
     subst z
     replace a := av
     refine k_then_ret (k_block_ret (k_then_ret (r_ret (r_vals [.slice none 0 0, Vi 13] ⟨R, R, trivial⟩ ?_))))
     obtain rfl := some_inj a
     have L := n.pick [none, some 1] [blk none, f] R
     have K := r.pick [none] [blk none] R
     exact ⟨none, 0, R, o, L, K, OwnS.nil _ _ _ _⟩
   refine c_skip (k_block (k_then (c_plain (x_u 3 [(38, Vi g), (39, Vi (i64.wrap (g + 1))), (8, Vi (i64.wrap (g + 1)))] (x_end R ?_)))))
   obtain rfl := some_inj a
   exact k_then ⟨(ad, N, i64.wrap (g + 1), F, Q), ⟨R, R, R, R, trivial⟩, ⟨U, o, n, r, p, q, y⟩, Nat.lt_succ_self _⟩
 refine c_exit (k_then_exit ?_)
 obtain rfl := some_inj a
 have z := some_inj U
 subst z
 replace a := av
 refine k_then_exit (k_block_in (k_then (c_nm [(7, Vl w S O)] (fun A => ?_))))
 refine c_sp (x_u 3 [(99, Vl w S O), (4, Vl w S O), (5, Vi 0)] (x_ek (c_ret (r_ret (r_vals [Vl w S O, Vi 0] ⟨R, R, trivial⟩ ?_)))))
 obtain rfl := some_inj a
 have L := n.pick [some 0, some 1] [blk w, f] R
 have bA := pick_sub (ls := [blk w, f]) [some 0, some 1] [blk w, f] R
 have K := r.pick [some 0] [blk w] R
 exact ⟨w, O, R, o, L, K, y.sub bA⟩
end Go.Proofs.YtlejnkhaphlooaaGreat
