
/- Walks, printed by program: each function returns what the partial function of the same name returns. Conditions: those of each theorem. -/
import Derived.Test.YtlejnkhaphlooaaGreatGT
import Derived.Test.YtlejnkhaphlooaaGreatGr02
set_option linter.unusedVariables false
set_option linter.unusedSimpArgs false
set_option maxRecDepth 4000
namespace Go.Proofs.YtlejnkhaphlooaaGreat
open Go Go.V Go.Proofs Go.IntKind
def gen_New (a : List Int) : Option ((List Int) × Int) :=
some (a, 0)
theorem gen_New_w (a : Option Addr) (b : Nat) (c : List Int) (j : ((List Int) × Int)) (f : World) (d : List Nat) (n : MS f [d]) (p : SlR (eInt .i64) f (fl [d]) a b c) (s : gen_New c = some j) : CallVC Tryz.prog 10 [Vl a c b] f fun x k => ∃ (g : Nat), ∃ (q : Option Addr), ∃ (r : Nat), x = .pointer (some ⟨g, 0, none⟩) ∧ Ev [] f k ∧ MS k [[g], d] ∧ FR f.heap.size [[g]] ∧ k.heap[g]? = some (.cells #[Vl q j.1 r, Vi j.2] 90 (0, 0)) ∧ SlR (eInt .i64) k (fl [[g], d]) q r j.1 := by
 refine calls_vc hmx Tryz.func10 (by kernel_rfl) R (rs := [.tmp 2]) R (by kernel_rfl) (args := [Vl a c b]) R ?_
 have i : Ev [] f f := Ev.refl _ _
 have m : FR f.heap.size [] := FR.nil _
 refine c_sp (x_u 1 [(2, .pointer none)] (x_ek (c_sp (x_u 1 [(3, Vl a c b)] (x_build (vs := [(0, Vl a c b)]) (.agg #[Vl a c b, Vi 0]) R R R (fun _ _ => by kernel_rfl) ?_)))))
 refine x_box (xv := .agg #[Vl a c b, Vi 0]) R R R (fun e y o h l z => ?_)
 replace h : y.heap[e]? = some (.cells #[Vl a c b, Vi 0] 90 (0, 0)) := h
 refine inl1 ?_
 have v := Stp.box (ls := [d]) l o
 replace p := p.step v
 replace n := n.box l o h
 replace m := m.box i.size o
 replace i := i.ext l
 refine x_u 1 [(2, Vp e 0)] (x_ek (c_ret (r_ret (r_vals [Vp e 0] ⟨R, trivial⟩ ?_))))
 obtain rfl := some_inj s
 have u := n.pick [some 0, some 1] [[e], d] R
 have w := pick_sub (ls := [[e], d]) [some 0, some 1] [[e], d] R
 have t := m.pick [some 0] [[e]] R
 exact ⟨e, a, b, R, i, u, t, h, p.sub w⟩
def gen_Maker_Next_J3 (c : Int) (a : Int) (b : Int) : Option (Int × Int) :=
(if a ≠ 0 then
(if (decide ((Int.tmod b a) < 0)) = true then
some (i64.wrap ((Int.tmod b a) + a), i64.wrap (c + 1))
else
some (Int.tmod b a, i64.wrap (c + 1)))
else none)
def gen_Maker_Next (a : List Int) (b : Int) (c : Int) : Option (Int × Int) :=
(if (decide (((a).length : Int) > 0)) = true then
(if ((a).length : Int) ≠ 0 then
((idx a (Int.tmod b ((a).length : Int))).bind fun d =>
(if ((a).length : Int) ≠ 0 then
gen_Maker_Next_J3 b c (i64.wrap (d + (i64.wrap ((i64.wrap (Int.tdiv b ((a).length : Int))) * 7919))))
else none))
else none)
else
gen_Maker_Next_J3 b c 0)
theorem gen_Maker_Next_w (a : Nat) (h : Option Addr) (i : Nat) (b : List Int) (f : Int) (c : Int) (p : Int × Int) (j : World) (n : List Nat) (o : MS j [[a], n]) (m : SlR (eInt .i64) j (fl [[a], n]) h i b) (g : j.heap[a]? = some (.cells #[Vl h b i, Vi f] 90 (0, 0))) (d : gen_Maker_Next b f c = some p) : CallVC Tryz.prog 13 [Vp a 0, Vi c] j fun E l => E = Vi p.1 ∧ Ev [a] j l ∧ l.heap[a]? = some (.cells #[Vl h b i, Vi p.2] 90 (0, 0)) := by
 refine calls_vc hmx Tryz.func13 (by kernel_rfl) R (rs := [.tmp 4]) R (by kernel_rfl) (args := [Vp a 0, Vi c]) R ?_
 have k : Ev [a] j j := Ev.refl _ _
 have r : FR j.heap.size [] := FR.nil _
 refine c_sp (x_u 1 [(4, Vi 0)] (x_ek (c_sp (x_u 1 [(5, Vi 0)] (x_ek (c_join (σ := Int) (fun s => match s with | e => [(0, Vp a 0), (1, Vi c), (5, Vi e)]) (fun s l => match s with | e => gen_Maker_Next_J3 f c e = some p ∧ Ev [a] j l ∧ MS l [[a], n] ∧ FR j.heap.size [] ∧ SlR (eInt .i64) l (fl [[a], n]) h i b ∧ l.heap[a]? = some (.cells #[Vl h b i, Vi f] 90 (0, 0))) ?_ ?_))))))
 · refine c_sp (x_u 2 [(6, Vp a 0), (7, Vp a 0)] (x_fieldAddr (xv := Vp a 0) (Vp a 0) R R R (reads_field tfld90_0 _ _) (x_load (xv := Vp a 0) (Vl h b i) R R R (reads_box tcell22 g nn 0 _ R) (x_len (vs := [Vl h b i]) (Vi ((b).length : Int)) R R R (reads_len tsl22 _ _ _ _ _) (x_u 1 [(11, .bool (decide (((b).length : Int) > 0)))] (x_ek (c_if (decide (((b).length : Int) > 0)) R d (fun d => ?_) (fun d => ?_))))))))
   · refine c_drawn [] [(0, false), (1, false), (2, false), (3, false), (4, false), (5, false), (6, false), (7, false), (8, false), (9, false), (10, false), (11, false), (12, false), (13, false), (14, false), (15, false), (16, false), (17, false), (18, false), (19, false), (20, false), (21, false), (22, false), (23, false), (24, false), (25, false), (26, false), (27, false), (28, false)] _ (by kernel_rfl) R ?_
     have C := Stp.ext (ls := [[a], n]) (Ev.drew j)
     replace m := m.step C
     replace g := (Ev.drew j).box g nn
     replace o := o.ev (Ev.drew j)
     replace k := k.ext (Ev.drew j)
     refine x_u 2 [(12, Vp a 0), (13, Vp a 0)] (x_fieldAddr (xv := Vp a 0) (Vp a 0) R R R (reads_field tfld90_0 _ _) (x_load (xv := Vp a 0) (Vl h b i) R R R (reads_box tcell22 g nn 0 _ R) (x_u 2 [(16, Vp a 0), (17, Vp a 0)] (x_fieldAddr (xv := Vp a 0) (Vp a 1) R R R (reads_field tfld90_1 _ _) (x_load (xv := Vp a 1) (Vi f) R R R (reads_box tcell3 g nn 1 _ R) (x_u 2 [(20, Vp a 0), (21, Vp a 0)] (x_fieldAddr (xv := Vp a 0) (Vp a 0) R R R (reads_field tfld90_0 _ _) (x_load (xv := Vp a 0) (Vl h b i) R R R (reads_box tcell22 g nn 0 _ R) (x_len (vs := [Vl h b i]) (Vi ((b).length : Int)) R R R (reads_len tsl22 _ _ _ _ _) ?_)))))))))
     refine x_binop (Vi (Int.tmod f ((b).length : Int))) (Vi f) (Vi ((b).length : Int)) R R R R (vb_rem (guard_l d)) ?_
     replace d := guard_r d
     obtain ⟨q, D, d⟩ := bind_some d
     obtain ⟨t, H, A, y, v⟩ := reads_index (Mo := []) tsl22 m D
     obtain rfl := v
     refine x_indexAddr (xv := Vl h b i) (yv := Vi (Int.tmod f ((b).length : Int))) (.pointer (some t)) R R R R A (x_load (xv := .pointer (some t)) (Vi q) R R R (reads_cell0 tcell3 y (fun _ d => by cases d)) ?_)
     refine x_u 2 [(28, Vp a 0), (29, Vp a 0)] (x_fieldAddr (xv := Vp a 0) (Vp a 1) R R R (reads_field tfld90_1 _ _) (x_load (xv := Vp a 1) (Vi f) R R R (reads_box tcell3 g nn 1 _ R) (x_u 2 [(32, Vp a 0), (33, Vp a 0)] (x_fieldAddr (xv := Vp a 0) (Vp a 0) R R R (reads_field tfld90_0 _ _) (x_load (xv := Vp a 0) (Vl h b i) R R R (reads_box tcell22 g nn 0 _ R) (x_len (vs := [Vl h b i]) (Vi ((b).length : Int)) R R R (reads_len tsl22 _ _ _ _ _) (x_binop (Vi (i64.wrap (Int.tdiv f ((b).length : Int)))) (Vi f) (Vi ((b).length : Int)) R R R R (vb_quo (guard_l d)) ?_)))))))
     replace d := guard_r d
     refine x_u 3 [(38, Vi (i64.wrap ((i64.wrap (Int.tdiv f ((b).length : Int))) * 7919))), (39, Vi (i64.wrap (q + (i64.wrap ((i64.wrap (Int.tdiv f ((b).length : Int))) * 7919))))), (5, Vi (i64.wrap (q + (i64.wrap ((i64.wrap (Int.tdiv f ((b).length : Int))) * 7919)))))] (x_end R ?_)
     exact k_then ⟨i64.wrap (q + (i64.wrap ((i64.wrap (Int.tdiv f ((b).length : Int))) * 7919))), ⟨R, R, R, trivial⟩, d, k, o, r, m, g⟩
   refine c_skip ?_
   exact k_then ⟨0, ⟨R, R, R, trivial⟩, d, k, o, r, m, g⟩
 rintro e u I ⟨d, k, o, r, m, g⟩
 refine c_sp (x_u 2 [(40, Vp a 0), (41, Vp a 0)] (x_fieldAddr (xv := Vp a 0) (Vp a 1) R R R (reads_field tfld90_1 _ _) (x_load (xv := Vp a 1) (Vi f) R R R (reads_box tcell3 g nn 1 _ R) (x_u 2 [(44, Vi (i64.wrap (f + 1))), (45, Vp a 0)] (x_fieldAddr (xv := Vp a 0) (Vp a 1) R R R (reads_field tfld90_1 _ _) ?_)))))
 obtain ⟨F, B, x, z⟩ := store_box 1 (Vi (i64.wrap (f + 1))) #[Vl h b i, Vi (i64.wrap (f + 1))] tcell3 g R R R
 refine x_store F (xv := Vp a 1) (yv := Vi (i64.wrap (f + 1))) R R R R B (inl1 ?_)
 replace k := k.then z (fun G w => .inl (by simpa using w))
 replace g := x
 refine x_ek (c_nm [(1, Vi c), (5, Vi e)] (fun u => ?_))
 refine c_sp (x_u 2 [(47, Vi e), (48, Vi c)] (x_binop (Vi (Int.tmod e c)) (Vi e) (Vi c) R R R R (vb_rem (guard_l d)) ?_))
 replace d := guard_r d
 refine x_u 1 [(5, Vi (Int.tmod e c))] (x_ek (c_seq (c_sp (x_u 2 [(50, Vi (Int.tmod e c)), (51, .bool (decide ((Int.tmod e c) < 0)))] (x_ek (c_if (decide ((Int.tmod e c) < 0)) R d (fun d => ?_) (fun d => ?_)))))))
 · refine c_plain (x_u 4 [(52, Vi (Int.tmod e c)), (53, Vi c), (54, Vi (i64.wrap ((Int.tmod e c) + c))), (5, Vi (i64.wrap ((Int.tmod e c) + c)))] (x_ek (c_sp (x_u 2 [(55, Vi (i64.wrap ((Int.tmod e c) + c))), (4, Vi (i64.wrap ((Int.tmod e c) + c)))] (x_ek (c_ret (r_ret (r_vals [Vi (i64.wrap ((Int.tmod e c) + c))] ⟨R, trivial⟩ ?_))))))))
   obtain rfl := some_inj d
   exact ⟨R, k, g⟩
 refine c_skip (k_then (c_sp (x_u 2 [(55, Vi (Int.tmod e c)), (4, Vi (Int.tmod e c))] (x_ek (c_ret (r_ret (r_vals [Vi (Int.tmod e c)] ⟨R, trivial⟩ ?_)))))))
 obtain rfl := some_inj d
 exact ⟨R, k, g⟩
def gen_Maker_Digits_L5 (e : List Int) (f : Int) (g : Int × (List Int) × Int) : Option (Step (Int × (List Int) × Int) (Int × (List Int))) :=
match g with
| (c, b, a) =>
(if (decide (a < f)) = true then
((gen_Maker_Next e c 10).bind fun d =>
((idx b a).bind fun h =>
some (.next (d.2, (b.set (Int.toNat a) (u8.wrap (i64.wrap (48 + d.1)))), i64.wrap (a + 1)))))
else
some (.done (c, b)))
def gen_Maker_Digits (e : List Int) (f : Int) (a : Int) : Option ((List UInt8) × Int) :=
(if (0 : Int) ≤ a ∧ (a : Int) ≤ 4294967296 then
((loop (gen_Maker_Digits_L5 e a) (f, (List.replicate (Int.toNat a) 0 : List Int), 0)).bind fun b => match b with
| (d, c) => some ((ofB c), d))
else none)
theorem gen_Maker_Digits_w (a : Nat) (z : Option Addr) (A : Nat) (v : List Int) (Q : Int) (h : Int) (S : (List UInt8) × Int) (p : World) (c : List Nat) (k : MS p [[a], c]) (r : SlR (eInt .i64) p (fl [[a], c]) z A v) (q : p.heap[a]? = some (.cells #[.slice z (v).length A, Vi Q] 90 (0, 0))) (f : gen_Maker_Digits v Q h = some S) : CallVC Tryz.prog 89 [Vp a 0, Vi h] p fun ak w => ak = Vs S.1 ∧ Ev [a] p w ∧ w.heap[a]? = some (.cells #[.slice z (v).length A, Vi S.2] 90 (0, 0)) := by
 refine calls_vc hmx Tryz.func89 (by kernel_rfl) R (rs := [.tmp 4]) R (by kernel_rfl) (args := [Vp a 0, Vi h]) R ?_
 have o : Ev [a] p p := Ev.refl _ _
 have B : FR p.heap.size [] := FR.nil _
 refine c_sp (x_u 1 [(4, Vs ([] : List UInt8))] (x_ek (c_sp (x_u 1 [(7, Vi h)] ?_))))
 have aa := guard_l f
 replace f := guard_r f
 obtain ⟨b, m, ay, ar, I, N, ai⟩ := own_make (e := (eInt .u8)) tel124 p h aa.1 aa.2 0 (fun _ _ => R)
 refine x_makeSlice _ ay (xv := Vi h) (yv := Vi h) R R R R ar (inl1 ?_)
 have x := Stp.push (ls := [[a], c]) (l := blk b) I (fun _ f => by cases f) (fun s i => (N s i).1)
 replace r := r.step x
 replace q := I.box q nn
 replace k := k.push I N
 replace B := B.push (fun s i => Nat.le_trans o.size (N s i).1)
 replace o := o.ext I
 have t := ai (fl [blk b, [a], c])
 clear ai
 refine x_u 1 [(5, .slice b ((List.replicate (Int.toNat h) 0 : List Int)).length m)] (x_ek (c_seq (c_sp (x_u 1 [(6, Vi 0)] (x_ek (c_block ?_))))))
 obtain ⟨al, L, am⟩ := bind_some f
 obtain ⟨F, L⟩ := loop_some L
 refine c_loop (loop_rule hmx (σ := Nat × Int × (List Int) × Int) (fun G => match G with | (_, D, g, d) => [(0, Vp a 0), (1, Vi h), (5, .slice b (g).length m), (6, Vi d)]) (fun G w => match G with | (aw, D, g, d) => loopN (gen_Maker_Digits_L5 v h) aw (D, g, d) = some al ∧ Ev [a] p w ∧ MS w [blk b, [a], c] ∧ FR p.heap.size [blk b] ∧ SlR (eInt .i64) w (fl [blk b, [a], c]) z A v ∧ w.heap[a]? = some (.cells #[.slice z (v).length A, Vi D] 90 (0, 0)) ∧ OwnS (eInt .u8) 5 w (fl [blk b, [a], c]) b m g) (fun G => G.1) (F, Q, (List.replicate (Int.toNat h) 0 : List Int), 0) ⟨R, R, R, R, trivial⟩ ⟨L, o, k, B, r, q, t⟩ ?_)
 rintro ⟨F, D, g, d⟩ X U ⟨E, o, k, B, r, q, t⟩
 rcases F with _ | F
 · exact (loopN_zero E).elim
 obtain ⟨aB, f, E⟩ := bind_some E
 refine c_seq (c_sp (x_u 3 [(9, Vi d), (10, Vi h), (11, .bool (decide (d < h)))] (x_ek (c_nm [(0, Vp a 0), (1, Vi h), (5, .slice b (g).length m), (6, Vi d), (11, .bool (decide (d < h)))] (fun X => ?_)))))
 refine c_if (decide (d < h)) R f (fun f => ?_) (fun f => ?_)
 · refine c_skip (k_then (c_seq (c_block (c_plain (x_u 3 [(14, .slice b (g).length m), (15, Vi d), (16, Vp a 0)] ?_)))))
   obtain ⟨u, C, f⟩ := bind_some f
   have ab : MS U ([[a]] ++ [blk b, c]) := k.pick [some 1, some 0, some 2] _ R
   have ae : ∀ j ∈ fl ([[a]] ++ [blk b, c]), j ∈ fl [blk b, [a], c] := pick_sub [some 1, some 0, some 2] _ R
   have ad : ∀ j ∈ fl ([[a]] ++ [(fl [blk b, c])]), j ∈ fl [blk b, [a], c] := fun j C => ae j (fl_unfold j C)
   have Z := gen_Maker_Next_w a z A v D 10 _ U (fl [blk b, c]) (ab.fold (P := [[a]])) (r.sub ad) q C
   refine x_call 13 #[] #[] [Vp a 0, Vi 10] _ R R R R Z ?_
   rintro ak aC ⟨rfl, J, ap⟩
   clear Z C
   refine inl1 ?_
   have ac : MS U ([[a]] ++ [blk b, c]) := k.pick [some 1, some 0, some 2] _ R
   have O : ∀ j ∈ fl ([[a]] ++ [blk b, c]), j ∈ fl [blk b, [a], c] := pick_sub [some 1, some 0, some 2] _ R
   have ah := Stp.call (LS := [blk b, [a], c]) (res := []) (par := [[a]]) (R := [blk b, c]) J (fun s i => O s (fl_left' (P := [[a]]) s i)) (FR.nil _) (NP.init _ _) (fun j C => O j (fl_right' (P := [[a]]) j C))
   have ag : ∀ j ∈ fl [blk b, [a], c], j ∈ fl ([] ++ ([[a]] ++ [blk b, c])) := pick_sub [some 1, some 0, some 2] _ R
   have x := ah.res ag
   replace r := r.step x
   replace t := t.step x J (MS.outs (P := [[a]]) ac 0 R)
   replace k := k.ev J
   replace o := o.then J (fun s i => .inl (by simpa using i))
   replace q := ap
   clear ab ad ae ac O ah ag x
   refine x_u 1 [(18, Vi (i64.wrap (48 + u.1)))] (x_convert (.int .u8 (u8.wrap (i64.wrap (48 + u.1)))) _ R R R (tcv3_5 (i64.wrap (48 + u.1)) _) (inl1 ?_))
   obtain ⟨aD, aj, f⟩ := bind_some f
   obtain ⟨Y, az, an, au, aA, K⟩ := own_index (Mo := []) tsl124 t aj
   obtain rfl := K
   refine x_indexAddr (xv := .slice b (g).length m) (yv := Vi d) (.pointer (some ⟨Y, (Int.toNat d) * (eInt .u8).n, none⟩)) R R R R au ?_
   obtain ⟨ax, aq, H, ao⟩ := own_storeE an (y := u8.wrap (i64.wrap (48 + u.1))) 0 (.int .u8 (u8.wrap (i64.wrap (48 + u.1)))) tcell5 t (mem_flat 0 R) aj R R (fun _ _ _ K => set_int K)
   refine x_store ax (xv := .pointer (some ⟨Y, (Int.toNat d) * (eInt .u8).n, none⟩)) (yv := .int .u8 (u8.wrap (i64.wrap (48 + u.1)))) R R R R aq (inl1 ?_)
   have x := Stp.ev' (ls := [blk b, [a], c]) H (mem_flat 0 R)
   replace q := H.box q (k.apart 1 0 R R R _ mem1)
   replace r := r.step x
   replace k := k.ev H
   replace o := o.then H (fun s i => .inr (B.at 0 R s i))
   replace t := ao
   have af : (Value.slice b (g).length m) = (Value.slice b ((g.set (Int.toNat d) (u8.wrap (i64.wrap (48 + u.1))))).length m) := by first | (rw [List.length_set]; done) | simp only [List.length_set]
   try rw [af]
   clear af
   refine x_end R (k_block (k_then (c_plain (x_u 3 [(12, Vi d), (13, Vi (i64.wrap (d + 1))), (6, Vi (i64.wrap (d + 1)))] (x_end R ?_)))))
   obtain rfl := some_inj f
   exact k_then ⟨(F, u.2, (g.set (Int.toNat d) (u8.wrap (i64.wrap (48 + u.1)))), i64.wrap (d + 1)), ⟨R, R, R, R, trivial⟩, ⟨E, o, k, B, r, q, t⟩, Nat.lt_succ_self _⟩
 refine c_exit (k_then_exit ?_)
 obtain rfl := some_inj f
 have av := some_inj E
 subst av
 replace f := am
 refine k_then_exit (k_block_in (k_then (c_nm [(5, .slice b (g).length m)] (fun X => ?_))))
 refine c_sp (x_u 1 [(21, .slice b (g).length m)] (x_convert (xv := .slice b (g).length m) (Vs (ofB g)) _ R R R (run_ofB tuns124 tint5 tstr9 (t.ro (M' := []) (fun _ i => by cases i) (fun _ _ i => by cases i))) ?_))
 refine inl1 (x_u 1 [(4, Vs (ofB g))] (x_ek (c_ret (r_ret (r_vals [Vs (ofB g)] ⟨R, trivial⟩ ?_)))))
 obtain rfl := some_inj f
 exact ⟨R, o, q⟩
def gen_Maker_Number (d : List Int) (e : Int) (a : Int) : Option ((List UInt8) × Int) :=
((gen_Maker_Digits d e 11).bind fun b =>
(if b.1.length ≤ 4294967296 then
((idx (toB b.1) 8).bind fun h =>
((idx ((toB b.1).set (Int.toNat 8) (u8.wrap (i64.wrap (48 + (Int.tmod (i64.wrap (Int.tdiv a 100)) 10))))) 9).bind fun f =>
((idx (((toB b.1).set (Int.toNat 8) (u8.wrap (i64.wrap (48 + (Int.tmod (i64.wrap (Int.tdiv a 100)) 10))))).set (Int.toNat 9) (u8.wrap (i64.wrap (48 + (Int.tmod (i64.wrap (Int.tdiv a 10)) 10))))) 10).bind fun g =>
((r02_Digit (ofB ((((toB b.1).set (Int.toNat 8) (u8.wrap (i64.wrap (48 + (Int.tmod (i64.wrap (Int.tdiv a 100)) 10))))).set (Int.toNat 9) (u8.wrap (i64.wrap (48 + (Int.tmod (i64.wrap (Int.tdiv a 10)) 10))))).set (Int.toNat 10) (u8.wrap (i64.wrap (48 + (Int.tmod a 10))))))).bind fun c =>
(if (ofB ((((toB b.1).set (Int.toNat 8) (u8.wrap (i64.wrap (48 + (Int.tmod (i64.wrap (Int.tdiv a 100)) 10))))).set (Int.toNat 9) (u8.wrap (i64.wrap (48 + (Int.tmod (i64.wrap (Int.tdiv a 10)) 10))))).set (Int.toNat 10) (u8.wrap (i64.wrap (48 + (Int.tmod a 10)))))).length + (ofB ([u8.wrap (i64.wrap (48 + c.1))])).length ≤ 4294967296 then
some (((ofB ((((toB b.1).set (Int.toNat 8) (u8.wrap (i64.wrap (48 + (Int.tmod (i64.wrap (Int.tdiv a 100)) 10))))).set (Int.toNat 9) (u8.wrap (i64.wrap (48 + (Int.tmod (i64.wrap (Int.tdiv a 10)) 10))))).set (Int.toNat 10) (u8.wrap (i64.wrap (48 + (Int.tmod a 10)))))) ++ (ofB ([u8.wrap (i64.wrap (48 + c.1))]))), b.2)
else none)))))
else none))
theorem gen_Maker_Number_w (b : Nat) (E : Option Addr) (F : Nat) (D : List Int) (Q : Int) (a : Int) (S : (List UInt8) × Int) (t : World) (i : List Nat) (k : MS t [[b], i]) (aE : SlR (eInt .i64) t (fl [[b], i]) E F D) (o : t.heap[b]? = some (.cells #[.slice E (D).length F, Vi Q] 90 (0, 0))) (h : gen_Maker_Number D Q a = some S) : CallVC Tryz.prog 57 [Vp b 0, Vi a] t fun U ak => U = Vs S.1 ∧ Ev [b] t ak ∧ ak.heap[b]? = some (.cells #[.slice E (D).length F, Vi S.2] 90 (0, 0)) := by
 refine calls_vc hmx Tryz.func57 (by kernel_rfl) R (rs := [.tmp 4]) R (by kernel_rfl) (args := [Vp b 0, Vi a]) R ?_
 have m : Ev [b] t t := Ev.refl _ _
 have B : FR t.heap.size [] := FR.nil _
 refine c_sp (x_u 1 [(4, Vs ([] : List UInt8))] (x_ek (c_sp (x_u 1 [(8, Vp b 0)] ?_))))
 obtain ⟨d, u, h⟩ := bind_some h
 have ab : MS t ([[b]] ++ [i]) := k.pick [some 0, some 1] _ R
 have ad : ∀ r ∈ fl ([[b]] ++ [i]), r ∈ fl [[b], i] := pick_sub [some 0, some 1] _ R
 have ac : ∀ r ∈ fl ([[b]] ++ [(fl [i])]), r ∈ fl [[b], i] := fun r u => ad r (fl_unfold r u)
 have z := gen_Maker_Digits_w b E F D Q 11 _ t (fl [i]) (ab.fold (P := [[b]])) (aE.sub ac) o u
 refine x_call 89 #[] #[] [Vp b 0, Vi 11] _ R R R R z ?_
 rintro U aI ⟨rfl, L, au⟩
 clear z u
 refine inl1 ?_
 have O : ∀ r ∈ fl ([[b]] ++ [i]), r ∈ fl [[b], i] := pick_sub [some 0, some 1] _ R
 have af := Stp.call (LS := [[b], i]) (res := []) (par := [[b]]) (R := [i]) L (fun p g => O p (fl_left' (P := [[b]]) p g)) (FR.nil _) (NP.init _ _) (fun r u => O r (fl_right' (P := [[b]]) r u))
 have ae : ∀ r ∈ fl [[b], i], r ∈ fl ([] ++ ([[b]] ++ [i])) := pick_sub [some 0, some 1] _ R
 have H := af.res ae
 replace k := k.ev L
 replace m := m.then L (fun p g => .inl (by simpa using g))
 replace o := au
 clear ab ac ad O af ae H
 have C := guard_l h
 replace h := guard_r h
 obtain ⟨w, j, aJ, aB, G, N, ag⟩ := own_ofS (P := Tryz.prog) tstr9 tuns124 tint5 aI d.1 C
 refine x_convert (xv := Vs d.1) _ aJ R R R aB (inl1 ?_)
 have H := Stp.push (ls := [[b], i]) (l := blk w) G (fun _ h => by cases h) (fun p g => (N p g).1)
 replace o := G.box o nn
 replace k := k.push G N
 replace B := B.push (fun p g => Nat.le_trans m.size (N p g).1)
 replace m := m.ext G
 have q := ag (fl [blk w, [b], i])
 clear ag
 refine x_u 1 [(5, .slice w ((toB d.1)).length j)] (x_ek (c_sp (x_u 7 [(11, .slice w ((toB d.1)).length j), (12, .slice w ((toB d.1)).length j), (13, .slice w ((toB d.1)).length j), (14, Vi a), (15, Vi (i64.wrap (Int.tdiv a 100))), (16, Vi (Int.tmod (i64.wrap (Int.tdiv a 100)) 10)), (17, Vi (i64.wrap (48 + (Int.tmod (i64.wrap (Int.tdiv a 100)) 10))))] (x_convert (.int .u8 (u8.wrap (i64.wrap (48 + (Int.tmod (i64.wrap (Int.tdiv a 100)) 10))))) _ R R R (tcv3_5 (i64.wrap (48 + (Int.tmod (i64.wrap (Int.tdiv a 100)) 10))) _) (inl1 (x_u 4 [(19, Vi a), (20, Vi (i64.wrap (Int.tdiv a 10))), (21, Vi (Int.tmod (i64.wrap (Int.tdiv a 10)) 10)), (22, Vi (i64.wrap (48 + (Int.tmod (i64.wrap (Int.tdiv a 10)) 10))))] (x_convert (.int .u8 (u8.wrap (i64.wrap (48 + (Int.tmod (i64.wrap (Int.tdiv a 10)) 10))))) _ R R R (tcv3_5 (i64.wrap (48 + (Int.tmod (i64.wrap (Int.tdiv a 10)) 10))) _) (inl1 (x_u 3 [(24, Vi a), (25, Vi (Int.tmod a 10)), (26, Vi (i64.wrap (48 + (Int.tmod a 10))))] ?_)))))))))
 refine x_convert (.int .u8 (u8.wrap (i64.wrap (48 + (Int.tmod a 10))))) _ R R R (tcv3_5 (i64.wrap (48 + (Int.tmod a 10))) _) (inl1 ?_)
 obtain ⟨a0, aj, h⟩ := bind_some h
 obtain ⟨e, aN, x, aC, aS, s⟩ := own_indexM (Mo := []) tsl124 q aj
 subst x
 obtain rfl := s
 refine x_indexAddr (xv := .slice (Ad e 0) ((toB d.1)).length j) (yv := Vi 8) (.pointer (some ⟨e, (Int.toNat 8) * (eInt .u8).n, none⟩)) R R R R aC ?_
 obtain ⟨aF, aw, I, ap⟩ := own_storeM (y := u8.wrap (i64.wrap (48 + (Int.tmod (i64.wrap (Int.tdiv a 100)) 10)))) 0 (.int .u8 (u8.wrap (i64.wrap (48 + (Int.tmod (i64.wrap (Int.tdiv a 100)) 10))))) tcell5 q (mem_flat 0 R _ mem1) aj R R (fun _ _ _ s => set_int s)
 refine x_store aF (xv := .pointer (some ⟨e, (Int.toNat 8) * (eInt .u8).n, none⟩)) (yv := .int .u8 (u8.wrap (i64.wrap (48 + (Int.tmod (i64.wrap (Int.tdiv a 100)) 10))))) R R R R aw (inl1 ?_)
 replace o := I.box o (k.apart 1 0 R R R _ mem1)
 replace k := k.ev I
 replace m := m.then I (fun p g => .inr (B.at 0 R p g))
 replace q := ap
 have v : (Value.slice (Ad e 0) ((toB d.1)).length j) = (Value.slice (Ad e 0) (((toB d.1).set (Int.toNat 8) (u8.wrap (i64.wrap (48 + (Int.tmod (i64.wrap (Int.tdiv a 100)) 10)))))).length j) := by first | (rw [List.length_set]; done) | simp only [List.length_set]
 try rw [v]
 clear v
 obtain ⟨aY, ah, h⟩ := bind_some h
 obtain ⟨an, aK, x, ax, aO, s⟩ := own_indexM (Mo := []) tsl124 q ah
 have C : e = an := by cases x; rfl
 subst C
 obtain rfl := s
 refine x_indexAddr (xv := .slice (Ad e 0) (((toB d.1).set (Int.toNat 8) (u8.wrap (i64.wrap (48 + (Int.tmod (i64.wrap (Int.tdiv a 100)) 10)))))).length j) (yv := Vi 9) (.pointer (some ⟨e, (Int.toNat 9) * (eInt .u8).n, none⟩)) R R R R ax ?_
 obtain ⟨aG, ay, J, aq⟩ := own_storeM (y := u8.wrap (i64.wrap (48 + (Int.tmod (i64.wrap (Int.tdiv a 10)) 10)))) 0 (.int .u8 (u8.wrap (i64.wrap (48 + (Int.tmod (i64.wrap (Int.tdiv a 10)) 10))))) tcell5 q (mem_flat 0 R _ mem1) ah R R (fun _ _ _ s => set_int s)
 refine x_store aG (xv := .pointer (some ⟨e, (Int.toNat 9) * (eInt .u8).n, none⟩)) (yv := .int .u8 (u8.wrap (i64.wrap (48 + (Int.tmod (i64.wrap (Int.tdiv a 10)) 10))))) R R R R ay (inl1 ?_)
 replace o := J.box o (k.apart 1 0 R R R _ mem1)
 replace k := k.ev J
 replace m := m.then J (fun p g => .inr (B.at 0 R p g))
 replace q := aq
 have v : (Value.slice (Ad e 0) (((toB d.1).set (Int.toNat 8) (u8.wrap (i64.wrap (48 + (Int.tmod (i64.wrap (Int.tdiv a 100)) 10)))))).length j) = (Value.slice (Ad e 0) ((((toB d.1).set (Int.toNat 8) (u8.wrap (i64.wrap (48 + (Int.tmod (i64.wrap (Int.tdiv a 100)) 10))))).set (Int.toNat 9) (u8.wrap (i64.wrap (48 + (Int.tmod (i64.wrap (Int.tdiv a 10)) 10)))))).length j) := by first | (rw [List.length_set]; done) | simp only [List.length_set]
 try rw [v]
 clear v
 obtain ⟨aZ, ai, h⟩ := bind_some h
 obtain ⟨ao, aL, x, az, aQ, s⟩ := own_indexM (Mo := []) tsl124 q ai
 have C : e = ao := by cases x; rfl
 subst C
 obtain rfl := s
 refine x_indexAddr (xv := .slice (Ad e 0) ((((toB d.1).set (Int.toNat 8) (u8.wrap (i64.wrap (48 + (Int.tmod (i64.wrap (Int.tdiv a 100)) 10))))).set (Int.toNat 9) (u8.wrap (i64.wrap (48 + (Int.tmod (i64.wrap (Int.tdiv a 10)) 10)))))).length j) (yv := Vi 10) (.pointer (some ⟨e, (Int.toNat 10) * (eInt .u8).n, none⟩)) R R R R az ?_
 obtain ⟨al, aA, K, ar⟩ := own_storeM (y := u8.wrap (i64.wrap (48 + (Int.tmod a 10)))) 0 (.int .u8 (u8.wrap (i64.wrap (48 + (Int.tmod a 10))))) tcell5 q (mem_flat 0 R _ mem1) ai R R (fun _ _ _ s => set_int s)
 refine x_store al (xv := .pointer (some ⟨e, (Int.toNat 10) * (eInt .u8).n, none⟩)) (yv := .int .u8 (u8.wrap (i64.wrap (48 + (Int.tmod a 10))))) R R R R aA (inl1 ?_)
 replace o := K.box o (k.apart 1 0 R R R _ mem1)
 replace k := k.ev K
 replace m := m.then K (fun p g => .inr (B.at 0 R p g))
 replace q := ar
 have v : (Value.slice (Ad e 0) ((((toB d.1).set (Int.toNat 8) (u8.wrap (i64.wrap (48 + (Int.tmod (i64.wrap (Int.tdiv a 100)) 10))))).set (Int.toNat 9) (u8.wrap (i64.wrap (48 + (Int.tmod (i64.wrap (Int.tdiv a 10)) 10)))))).length j) = (Value.slice (Ad e 0) (((((toB d.1).set (Int.toNat 8) (u8.wrap (i64.wrap (48 + (Int.tmod (i64.wrap (Int.tdiv a 100)) 10))))).set (Int.toNat 9) (u8.wrap (i64.wrap (48 + (Int.tmod (i64.wrap (Int.tdiv a 10)) 10))))).set (Int.toNat 10) (u8.wrap (i64.wrap (48 + (Int.tmod a 10)))))).length j) := by first | (rw [List.length_set]; done) | simp only [List.length_set]
 try rw [v]
 clear v
 refine x_ek (c_nm [(5, .slice (Ad e 0) (((((toB d.1).set (Int.toNat 8) (u8.wrap (i64.wrap (48 + (Int.tmod (i64.wrap (Int.tdiv a 100)) 10))))).set (Int.toNat 9) (u8.wrap (i64.wrap (48 + (Int.tmod (i64.wrap (Int.tdiv a 10)) 10))))).set (Int.toNat 10) (u8.wrap (i64.wrap (48 + (Int.tmod a 10)))))).length j)] (fun am => ?_))
 refine c_sp (x_u 1 [(32, .slice (Ad e 0) (((((toB d.1).set (Int.toNat 8) (u8.wrap (i64.wrap (48 + (Int.tmod (i64.wrap (Int.tdiv a 100)) 10))))).set (Int.toNat 9) (u8.wrap (i64.wrap (48 + (Int.tmod (i64.wrap (Int.tdiv a 10)) 10))))).set (Int.toNat 10) (u8.wrap (i64.wrap (48 + (Int.tmod a 10)))))).length j)] (x_convert (xv := .slice (Ad e 0) (((((toB d.1).set (Int.toNat 8) (u8.wrap (i64.wrap (48 + (Int.tmod (i64.wrap (Int.tdiv a 100)) 10))))).set (Int.toNat 9) (u8.wrap (i64.wrap (48 + (Int.tmod (i64.wrap (Int.tdiv a 10)) 10))))).set (Int.toNat 10) (u8.wrap (i64.wrap (48 + (Int.tmod a 10)))))).length j) (Vs (ofB ((((toB d.1).set (Int.toNat 8) (u8.wrap (i64.wrap (48 + (Int.tmod (i64.wrap (Int.tdiv a 100)) 10))))).set (Int.toNat 9) (u8.wrap (i64.wrap (48 + (Int.tmod (i64.wrap (Int.tdiv a 10)) 10))))).set (Int.toNat 10) (u8.wrap (i64.wrap (48 + (Int.tmod a 10))))))) _ R R R (run_ofB tuns124 tint5 tstr9 (q.ro (M' := []) (fun _ g => by cases g) (fun _ _ g => by cases g))) ?_))
 refine inl1 ?_
 obtain ⟨f, u, h⟩ := bind_some h
 have z := r02_Digit_w (ofB ((((toB d.1).set (Int.toNat 8) (u8.wrap (i64.wrap (48 + (Int.tmod (i64.wrap (Int.tdiv a 100)) 10))))).set (Int.toNat 9) (u8.wrap (i64.wrap (48 + (Int.tmod (i64.wrap (Int.tdiv a 10)) 10))))).set (Int.toNat 10) (u8.wrap (i64.wrap (48 + (Int.tmod a 10)))))) _ al u
 refine x_call 90 #[] #[] [Vs (ofB ((((toB d.1).set (Int.toNat 8) (u8.wrap (i64.wrap (48 + (Int.tmod (i64.wrap (Int.tdiv a 100)) 10))))).set (Int.toNat 9) (u8.wrap (i64.wrap (48 + (Int.tmod (i64.wrap (Int.tdiv a 10)) 10))))).set (Int.toNat 10) (u8.wrap (i64.wrap (48 + (Int.tmod a 10))))))] _ R R R R z ?_
 rintro U aX ⟨rfl, A⟩
 clear z u
 refine inl1 ?_
 have H := Stp.ext (ls := [blk (Ad e 0), [b], i]) A
 replace o := A.box o nn
 replace q := q.step H A nn2
 replace k := k.ev A
 replace m := m.ext A
 refine x_u 5 [(31, .tuple #[Vi f.1, Vi f.2]), (35, Vi f.1), (36, Vi f.2), (6, Vi f.1), (7, Vi f.2)] (x_ek (c_sp (x_u 1 [(37, .slice (Ad e 0) (((((toB d.1).set (Int.toNat 8) (u8.wrap (i64.wrap (48 + (Int.tmod (i64.wrap (Int.tdiv a 100)) 10))))).set (Int.toNat 9) (u8.wrap (i64.wrap (48 + (Int.tmod (i64.wrap (Int.tdiv a 10)) 10))))).set (Int.toNat 10) (u8.wrap (i64.wrap (48 + (Int.tmod a 10)))))).length j)] (x_convert (xv := .slice (Ad e 0) (((((toB d.1).set (Int.toNat 8) (u8.wrap (i64.wrap (48 + (Int.tmod (i64.wrap (Int.tdiv a 100)) 10))))).set (Int.toNat 9) (u8.wrap (i64.wrap (48 + (Int.tmod (i64.wrap (Int.tdiv a 10)) 10))))).set (Int.toNat 10) (u8.wrap (i64.wrap (48 + (Int.tmod a 10)))))).length j) (Vs (ofB ((((toB d.1).set (Int.toNat 8) (u8.wrap (i64.wrap (48 + (Int.tmod (i64.wrap (Int.tdiv a 100)) 10))))).set (Int.toNat 9) (u8.wrap (i64.wrap (48 + (Int.tmod (i64.wrap (Int.tdiv a 10)) 10))))).set (Int.toNat 10) (u8.wrap (i64.wrap (48 + (Int.tmod a 10))))))) _ R R R (run_ofB tuns124 tint5 tstr9 (q.ro (M' := []) (fun _ g => by cases g) (fun _ _ g => by cases g))) ?_))))
 refine inl1 (x_u 2 [(39, Vi f.1), (40, Vi (i64.wrap (48 + f.1)))] (x_convert (.int .u8 (u8.wrap (i64.wrap (48 + f.1)))) _ R R R (tcv3_5 (i64.wrap (48 + f.1)) _) (inl1 (x_buildSlice (vs := [(0, .int .u8 (u8.wrap (i64.wrap (48 + f.1))))]) #[.int .u8 (u8.wrap (i64.wrap (48 + f.1)))] 5 R R R (by kernel_rfl) (fun X aH av Y Z aU => ?_)))))
 refine inl1 ?_
 have aa := k
 replace o := Z.box o nn
 replace m := m.ext Z
 have aD : SlR (eInt .u8) aH (fl [blk (Ad e 0), [b], i]) (Ad X 0) 1 ([u8.wrap (i64.wrap (48 + f.1))]) := ro_of_box aa av Y R R (cells_at (cs := [.int .u8 (u8.wrap (i64.wrap (48 + f.1)))]) (CellsOf.cons (c := [.int .u8 (u8.wrap (i64.wrap (48 + f.1)))]) R CellsOf.nil))
 clear Y aa
 refine x_convert (xv := .slice (Ad X 0) ([u8.wrap (i64.wrap (48 + f.1))]).length 1) (Vs (ofB ([u8.wrap (i64.wrap (48 + f.1))]))) _ R R R (run_ofB tuns124 tint5 tstr9 aD) (inl1 (x_binop (Vs ((ofB ((((toB d.1).set (Int.toNat 8) (u8.wrap (i64.wrap (48 + (Int.tmod (i64.wrap (Int.tdiv a 100)) 10))))).set (Int.toNat 9) (u8.wrap (i64.wrap (48 + (Int.tmod (i64.wrap (Int.tdiv a 10)) 10))))).set (Int.toNat 10) (u8.wrap (i64.wrap (48 + (Int.tmod a 10)))))) ++ (ofB ([u8.wrap (i64.wrap (48 + f.1))])))) (Vs (ofB ((((toB d.1).set (Int.toNat 8) (u8.wrap (i64.wrap (48 + (Int.tmod (i64.wrap (Int.tdiv a 100)) 10))))).set (Int.toNat 9) (u8.wrap (i64.wrap (48 + (Int.tmod (i64.wrap (Int.tdiv a 10)) 10))))).set (Int.toNat 10) (u8.wrap (i64.wrap (48 + (Int.tmod a 10))))))) (Vs (ofB ([u8.wrap (i64.wrap (48 + f.1))]))) R R R R (bin_sadd (guard_l h)) ?_))
 replace h := guard_r h
 refine x_u 1 [(4, Vs ((ofB ((((toB d.1).set (Int.toNat 8) (u8.wrap (i64.wrap (48 + (Int.tmod (i64.wrap (Int.tdiv a 100)) 10))))).set (Int.toNat 9) (u8.wrap (i64.wrap (48 + (Int.tmod (i64.wrap (Int.tdiv a 10)) 10))))).set (Int.toNat 10) (u8.wrap (i64.wrap (48 + (Int.tmod a 10)))))) ++ (ofB ([u8.wrap (i64.wrap (48 + f.1))]))))] (x_ek (c_nm [(4, Vs ((ofB ((((toB d.1).set (Int.toNat 8) (u8.wrap (i64.wrap (48 + (Int.tmod (i64.wrap (Int.tdiv a 100)) 10))))).set (Int.toNat 9) (u8.wrap (i64.wrap (48 + (Int.tmod (i64.wrap (Int.tdiv a 10)) 10))))).set (Int.toNat 10) (u8.wrap (i64.wrap (48 + (Int.tmod a 10)))))) ++ (ofB ([u8.wrap (i64.wrap (48 + f.1))]))))] (fun am => ?_)))
 refine c_ret (r_ret (r_vals [Vs ((ofB ((((toB d.1).set (Int.toNat 8) (u8.wrap (i64.wrap (48 + (Int.tmod (i64.wrap (Int.tdiv a 100)) 10))))).set (Int.toNat 9) (u8.wrap (i64.wrap (48 + (Int.tmod (i64.wrap (Int.tdiv a 10)) 10))))).set (Int.toNat 10) (u8.wrap (i64.wrap (48 + (Int.tmod a 10)))))) ++ (ofB ([u8.wrap (i64.wrap (48 + f.1))])))] ⟨R, trivial⟩ ?_))
 obtain rfl := some_inj h
 exact ⟨R, m, o⟩
def gen_Maker_Pick (c : List Int) (d : Int) (a : List Int) : Option (Int × Int) :=
((gen_Maker_Next c d ((a).length : Int)).bind fun b =>
((idx a b.1).bind fun e =>
some (e, b.2)))
theorem gen_Maker_Pick_w (a : Nat) (k : Option Addr) (l : Nat) (j : List Int) (s : Int) (f : Option Addr) (g : Nat) (d : List Int) (t : Int × Int) (e : World) (b : List Nat) (I : MS e [[a], b]) (L : SlR (eInt .i64) e (fl [[a], b]) k l j) (o : e.heap[a]? = some (.cells #[Vl k j l, Vi s] 90 (0, 0))) (q : SlR (eInt .i64) e (fl [[a], b]) f g d) (h : gen_Maker_Pick j s d = some t) : CallVC Tryz.prog 26 [Vp a 0, Vl f d g] e fun E F => E = Vi t.1 ∧ Ev [a] e F ∧ F.heap[a]? = some (.cells #[Vl k j l, Vi t.2] 90 (0, 0)) := by
 refine calls_vc hmx Tryz.func26 (by kernel_rfl) R (rs := [.tmp 4]) R (by kernel_rfl) (args := [Vp a 0, Vl f d g]) R ?_
 have p : Ev [a] e e := Ev.refl _ _
 refine c_sp (x_u 1 [(4, Vi 0)] (x_ek (c_sp (x_u 3 [(5, Vl f d g), (6, Vp a 0), (7, Vl f d g)] (x_len (vs := [Vl f d g]) (Vi ((d).length : Int)) R R R (reads_len tsl22 _ _ _ _ _) ?_)))))
 obtain ⟨O, i, h⟩ := bind_some h
 have y : MS e ([[a]] ++ [b]) := I.pick [some 0, some 1] _ R
 have A : ∀ c ∈ fl ([[a]] ++ [b]), c ∈ fl [[a], b] := pick_sub [some 0, some 1] _ R
 have z : ∀ c ∈ fl ([[a]] ++ [(fl [b])]), c ∈ fl [[a], b] := fun c i => A c (fl_unfold c i)
 have w := gen_Maker_Next_w a k l j s ((d).length : Int) _ e (fl [b]) (y.fold (P := [[a]])) (L.sub z) o i
 refine x_call 13 #[] #[] [Vp a 0, Vi ((d).length : Int)] _ R R R R w ?_
 rintro E S ⟨rfl, x, J⟩
 clear w i
 refine inl1 ?_
 have r : ∀ c ∈ fl ([[a]] ++ [b]), c ∈ fl [[a], b] := pick_sub [some 0, some 1] _ R
 have D := Stp.call (LS := [[a], b]) (res := []) (par := [[a]]) (R := [b]) x (fun m n => r m (fl_left' (P := [[a]]) m n)) (FR.nil _) (NP.init _ _) (fun c i => r c (fl_right' (P := [[a]]) c i))
 have B : ∀ c ∈ fl [[a], b], c ∈ fl ([] ++ ([[a]] ++ [b])) := pick_sub [some 0, some 1] _ R
 have C := D.res B
 replace q := q.step C
 replace p := p.then x (fun m n => .inl (by simpa using n))
 replace o := J
 clear y z A r D B C
 obtain ⟨u, N, h⟩ := bind_some h
 obtain ⟨v, Q, K, H, G⟩ := reads_index (Mo := []) tsl22 q N
 obtain rfl := G
 refine x_indexAddr (xv := Vl f d g) (yv := Vi O.1) (.pointer (some v)) R R R R K (x_load (xv := .pointer (some v)) (Vi u) R R R (reads_cell0 tcell3 H (fun _ h => by cases h)) ?_)
 refine x_u 1 [(4, Vi u)] (x_ek (c_ret (r_ret (r_vals [Vi u] ⟨R, trivial⟩ ?_))))
 obtain rfl := some_inj h
 exact ⟨R, p, o⟩
def gen_Maker_Name (b : List Int) (c : Int) : Option ((List UInt8) × Int) :=
((gen_Maker_Next b c 10).bind fun a =>
((idx ([([97] : List UInt8), ([98] : List UInt8), ([99] : List UInt8), ([100] : List UInt8), ([101] : List UInt8), ([110, 111, 114, 116, 104] : List UInt8), ([115, 111, 117, 116, 104] : List UInt8), ([112, 111, 114, 116, 49] : List UInt8), ([120, 57] : List UInt8), ([97, 98, 99, 100, 101, 102, 103, 104, 105, 106, 107, 108] : List UInt8)] : List (List UInt8)) a.1).bind fun d =>
some (d, a.2)))
theorem gen_Maker_Name_w (a : Nat) (k : Option Addr) (l : Nat) (j : List Int) (u : Int) (v : (List UInt8) × Int) (f : World) (b : List Nat) (n : MS f [[a], b]) (s : SlR (eInt .i64) f (fl [[a], b]) k l j) (h : f.heap[a]? = some (.cells #[Vl k j l, Vi u] 90 (0, 0))) (e : gen_Maker_Name j u = some v) : CallVC Tryz.prog 41 [Vp a 0] f fun J K => J = Vs v.1 ∧ Ev [a] f K ∧ K.heap[a]? = some (.cells #[Vl k j l, Vi v.2] 90 (0, 0)) := by
 refine calls_vc hmx Tryz.func41 (by kernel_rfl) R (rs := [.tmp 2]) R (by kernel_rfl) (args := [Vp a 0]) R ?_
 have i : Ev [a] f f := Ev.refl _ _
 refine c_sp (x_u 1 [(2, Vs ([] : List UInt8))] (x_ek (c_sp (x_buildSlice (vs := [(0, Vs ([97] : List UInt8)), (1, Vs ([98] : List UInt8)), (2, Vs ([99] : List UInt8)), (3, Vs ([100] : List UInt8)), (4, Vs ([101] : List UInt8)), (5, Vs ([110, 111, 114, 116, 104] : List UInt8)), (6, Vs ([115, 111, 117, 116, 104] : List UInt8)), (7, Vs ([112, 111, 114, 116, 49] : List UInt8)), (8, Vs ([120, 57] : List UInt8)), (9, Vs ([97, 98, 99, 100, 101, 102, 103, 104, 105, 106, 107, 108] : List UInt8))]) #[Vs ([97] : List UInt8), Vs ([98] : List UInt8), Vs ([99] : List UInt8), Vs ([100] : List UInt8), Vs ([101] : List UInt8), Vs ([110, 111, 114, 116, 104] : List UInt8), Vs ([115, 111, 117, 116, 104] : List UInt8), Vs ([112, 111, 114, 116, 49] : List UInt8), Vs ([120, 57] : List UInt8), Vs ([97, 98, 99, 100, 101, 102, 103, 104, 105, 106, 107, 108] : List UInt8)] 9 R R R (by kernel_rfl) (fun z w Q A m Z => ?_)))))
 refine inl1 ?_
 have D := n
 have o := Stp.ext (ls := [[a], b]) m
 replace s := s.step o
 replace h := m.box h nn
 replace n := n.ev m
 replace i := i.ext m
 have r : SlR eStr w (fl [[a], b]) (Ad z 0) 10 ([([97] : List UInt8), ([98] : List UInt8), ([99] : List UInt8), ([100] : List UInt8), ([101] : List UInt8), ([110, 111, 114, 116, 104] : List UInt8), ([115, 111, 117, 116, 104] : List UInt8), ([112, 111, 114, 116, 49] : List UInt8), ([120, 57] : List UInt8), ([97, 98, 99, 100, 101, 102, 103, 104, 105, 106, 107, 108] : List UInt8)] : List (List UInt8)) := ro_of_box D Q A R R (cells_at (cs := [Vs ([97] : List UInt8), Vs ([98] : List UInt8), Vs ([99] : List UInt8), Vs ([100] : List UInt8), Vs ([101] : List UInt8), Vs ([110, 111, 114, 116, 104] : List UInt8), Vs ([115, 111, 117, 116, 104] : List UInt8), Vs ([112, 111, 114, 116, 49] : List UInt8), Vs ([120, 57] : List UInt8), Vs ([97, 98, 99, 100, 101, 102, 103, 104, 105, 106, 107, 108] : List UInt8)]) (CellsOf.cons (c := [Vs ([97] : List UInt8)]) R (CellsOf.cons (c := [Vs ([98] : List UInt8)]) R (CellsOf.cons (c := [Vs ([99] : List UInt8)]) R (CellsOf.cons (c := [Vs ([100] : List UInt8)]) R (CellsOf.cons (c := [Vs ([101] : List UInt8)]) R (CellsOf.cons (c := [Vs ([110, 111, 114, 116, 104] : List UInt8)]) R (CellsOf.cons (c := [Vs ([115, 111, 117, 116, 104] : List UInt8)]) R (CellsOf.cons (c := [Vs ([112, 111, 114, 116, 49] : List UInt8)]) R (CellsOf.cons (c := [Vs ([120, 57] : List UInt8)]) R (CellsOf.cons (c := [Vs ([97, 98, 99, 100, 101, 102, 103, 104, 105, 106, 107, 108] : List UInt8)]) R CellsOf.nil)))))))))))
 clear A D
 refine x_u 1 [(4, Vp a 0)] ?_
 obtain ⟨X, g, e⟩ := bind_some e
 have E : MS w ([[a]] ++ [b]) := n.pick [some 0, some 1] _ R
 have G : ∀ d ∈ fl ([[a]] ++ [b]), d ∈ fl [[a], b] := pick_sub [some 0, some 1] _ R
 have F : ∀ d ∈ fl ([[a]] ++ [(fl [b])]), d ∈ fl [[a], b] := fun d g => G d (fl_unfold d g)
 have B := gen_Maker_Next_w a k l j u 10 _ w (fl [b]) (E.fold (P := [[a]])) (s.sub F) h g
 refine x_call 13 #[] #[] [Vp a 0, Vi 10] _ R R R R B ?_
 rintro J aa ⟨rfl, C, O⟩
 clear B g
 refine inl1 ?_
 have t : ∀ d ∈ fl ([[a]] ++ [b]), d ∈ fl [[a], b] := pick_sub [some 0, some 1] _ R
 have I := Stp.call (LS := [[a], b]) (res := []) (par := [[a]]) (R := [b]) C (fun p q => t p (fl_left' (P := [[a]]) p q)) (FR.nil _) (NP.init _ _) (fun d g => t d (fl_right' (P := [[a]]) d g))
 have H : ∀ d ∈ fl [[a], b], d ∈ fl ([] ++ ([[a]] ++ [b])) := pick_sub [some 0, some 1] _ R
 have o := I.res H
 replace r := r.step o
 replace i := i.then C (fun p q => .inl (by simpa using q))
 replace h := O
 clear E F G t I H o
 obtain ⟨x, U, e⟩ := bind_some e
 obtain ⟨y, Y, S, N, L⟩ := reads_index (Mo := []) tsl29 r U
 obtain rfl := L
 refine x_indexAddr (xv := .slice (Ad z 0) (([([97] : List UInt8), ([98] : List UInt8), ([99] : List UInt8), ([100] : List UInt8), ([101] : List UInt8), ([110, 111, 114, 116, 104] : List UInt8), ([115, 111, 117, 116, 104] : List UInt8), ([112, 111, 114, 116, 49] : List UInt8), ([120, 57] : List UInt8), ([97, 98, 99, 100, 101, 102, 103, 104, 105, 106, 107, 108] : List UInt8)] : List (List UInt8))).length 10) (yv := Vi X.1) (.pointer (some y)) R R R R S (x_load (xv := .pointer (some y)) (Vs x) R R R (reads_cell0 tcell9 N (fun _ e => by cases e)) ?_)
 refine x_u 1 [(2, Vs x)] (x_ek (c_ret (r_ret (r_vals [Vs x] ⟨R, trivial⟩ ?_))))
 obtain rfl := some_inj e
 exact ⟨R, i, h⟩
def gen_Maker_Wagon_J26 (f : List Int) (i : (List UInt8) × Int) (a : Int × Int) (g : Int × Int) (h : Int × Int) (b : (List UInt8) × Int) (j : List UInt8) (k : List UInt8) (d : Int) (e : Int) : Option (((List UInt8) × Int × Int × Int × Int × Int × Bool × (List UInt8)) × Int) :=
((gen_Maker_Next f b.2 5).bind fun c =>
some ((i.1, d, e, a.1, i64.wrap (Int.tdiv (i64.wrap (a.1 * c.1)) 4), g.1, h.1 == 0, b.1), c.2))
def gen_Maker_Wagon_J28 (d : List Int) (i : (List UInt8) × Int) (a : Int × Int) (e : Int × Int) (f : Int × Int) (g : Int × Int) (h : (List UInt8) × Int) (k : Int) (b : List UInt8) (c : List UInt8) (j : Bool) : Option (((List UInt8) × Int × Int × Int × Int × Int × Bool × (List UInt8)) × Int) :=
(if j = true then
gen_Maker_Wagon_J26 d i e f g h b c a.1 2
else
(if (k == 57) = true then
gen_Maker_Wagon_J26 d i e f g h b c (if 120 > a.1 then 120 else a.1) 6
else
gen_Maker_Wagon_J26 d i e f g h b c a.1 4))
def gen_Maker_Wagon (a : List Int) (i : Int) (j : Int) : Option (((List UInt8) × Int × Int × Int × Int × Int × Bool × (List UInt8)) × Int) :=
((gen_Maker_Number a i j).bind fun c =>
((gen_Maker_Pick a c.2 ([80, 120, 142, 199, 262, 400])).bind fun g =>
((gen_Maker_Pick a g.2 ([50, 120, 400, 800, 2000])).bind fun d =>
((gen_Maker_Pick a d.2 ([0, 0, 0, 1, 3, 9])).bind fun e =>
((gen_Maker_Next a e.2 5).bind fun f =>
((gen_Maker_Name a f.2).bind fun h =>
((sAt c.1 4).bind fun b =>
(if (b == 50) = true then
gen_Maker_Wagon_J28 a c g d e f h b ([] : List UInt8) ([] : List UInt8) true
else
gen_Maker_Wagon_J28 a c g d e f h b ([] : List UInt8) ([] : List UInt8) (b == 52)))))))))
theorem gen_Maker_Wagon_w (a : Nat) (J : Option Addr) (K : Nat) (H : List Int) (aL : Int) (ad : Int) (Q : ((List UInt8) × Int × Int × Int × Int × Int × Bool × (List UInt8)) × Int) (S : World) (d : List Nat) (f : MS S [[a], d]) (h : SlR (eInt .i64) S (fl [[a], d]) J K H) (k : S.heap[a]? = some (.cells #[Vl J H K, Vi aL] 90 (0, 0))) (q : gen_Maker_Wagon H aL ad = some Q) : CallVC Tryz.prog 29 [Vp a 0, Vi ad] S fun Z I => Z = .agg #[Vs Q.1.1, Vi Q.1.2.1, Vi Q.1.2.2.1, Vi Q.1.2.2.2.1, Vi Q.1.2.2.2.2.1, Vi Q.1.2.2.2.2.2.1, .bool Q.1.2.2.2.2.2.2.1, Vs Q.1.2.2.2.2.2.2.2] ∧ Ev [a] S I ∧ I.heap[a]? = some (.cells #[Vl J H K, Vi Q.2] 90 (0, 0)) := by
 refine calls_vc hmx Tryz.func29 (by kernel_rfl) R (rs := [.cell 4 34]) R (by kernel_rfl) (args := [Vp a 0, Vi ad]) R ?_
 have i : Ev [a] S S := Ev.refl _ _
 have A : FR S.heap.size [] := FR.nil _
 refine c_sp (x_alloc (z := .agg #[Vs ([] : List UInt8), Vi 0, Vi 0, Vi 0, Vi 0, Vi 0, .bool false, Vs ([] : List UInt8)]) R R (by kernel_rfl) (fun b aE aK j az bz => ?_))
 replace j : aE.heap[b]? = some (.cells #[Vs ([] : List UInt8), Vi 0, Vi 0, Vi 0, Vi 0, Vi 0, .bool false, Vs ([] : List UInt8)] 34 (0, 0)) := j
 refine inl1 ?_
 have m := Stp.box (ls := [[a], d]) az aK
 replace h := h.step m
 replace k := az.box k nn
 replace f := f.box az aK j
 replace A := A.box i.size aK
 replace i := i.ext az
 refine x_ek (c_sp (x_u 2 [(6, Vp a 0), (7, Vi ad)] ?_))
 obtain ⟨x, l, q⟩ := bind_some q
 have s : MS aE ([[a]] ++ [[b], d]) := f.pick [some 1, some 0, some 2] _ R
 have E : ∀ e ∈ fl ([[a]] ++ [[b], d]), e ∈ fl [[b], [a], d] := pick_sub [some 1, some 0, some 2] _ R
 have u : ∀ e ∈ fl ([[a]] ++ [(fl [[b], d])]), e ∈ fl [[b], [a], d] := fun e l => E e (fl_unfold e l)
 have D := gen_Maker_Number_w a J K H aL ad _ aE (fl [[b], d]) (s.fold (P := [[a]])) (h.sub u) k l
 refine x_call 57 #[] #[] [Vp a 0, Vi ad] _ R R R R D ?_
 rintro Z bF ⟨rfl, aB, ba⟩
 clear D l
 refine inl1 ?_
 have B : MS aE ([[a]] ++ [[b], d]) := f.pick [some 1, some 0, some 2] _ R
 have v : ∀ e ∈ fl ([[a]] ++ [[b], d]), e ∈ fl [[b], [a], d] := pick_sub [some 1, some 0, some 2] _ R
 have G := Stp.call (LS := [[b], [a], d]) (res := []) (par := [[a]]) (R := [[b], d]) aB (fun o n => v o (fl_left' (P := [[a]]) o n)) (FR.nil _) (NP.init _ _) (fun e l => v e (fl_right' (P := [[a]]) e l))
 have F : ∀ e ∈ fl [[b], [a], d], e ∈ fl ([] ++ ([[a]] ++ [[b], d])) := pick_sub [some 1, some 0, some 2] _ R
 have m := G.res F
 replace h := h.step m
 replace j := aB.box j ((MS.outs (P := [[a]]) B 0 R) _ mem1)
 replace f := f.ev aB
 replace i := i.then aB (fun o n => .inl (by simpa using n))
 replace k := ba
 clear s u E B v G F m
 refine x_u 1 [(9, Vp a 0)] (x_buildSlice (vs := [(0, Vi 80), (1, Vi 120), (2, Vi 142), (3, Vi 199), (4, Vi 262), (5, Vi 400)]) #[Vi 80, Vi 120, Vi 142, Vi 199, Vi 262, Vi 400] 3 R R R (by kernel_rfl) (fun aI aF bd aU am bA => ?_))
 refine inl1 ?_
 have Y := f
 have m := Stp.ext (ls := [[b], [a], d]) am
 replace h := h.step m
 replace k := am.box k nn
 replace j := am.box j nn
 replace f := f.ev am
 replace i := i.ext am
 have bm : SlR (eInt .i64) aF (fl [[b], [a], d]) (Ad aI 0) 6 ([80, 120, 142, 199, 262, 400]) := ro_of_box Y bd aU R R (cells_at (cs := [Vi 80, Vi 120, Vi 142, Vi 199, Vi 262, Vi 400]) (CellsOf.cons (c := [Vi 80]) R (CellsOf.cons (c := [Vi 120]) R (CellsOf.cons (c := [Vi 142]) R (CellsOf.cons (c := [Vi 199]) R (CellsOf.cons (c := [Vi 262]) R (CellsOf.cons (c := [Vi 400]) R CellsOf.nil)))))))
 clear aU Y
 obtain ⟨t, l, q⟩ := bind_some q
 have s : MS aF ([[a]] ++ [[b], d]) := f.pick [some 1, some 0, some 2] _ R
 have E : ∀ e ∈ fl ([[a]] ++ [[b], d]), e ∈ fl [[b], [a], d] := pick_sub [some 1, some 0, some 2] _ R
 have u : ∀ e ∈ fl ([[a]] ++ [(fl [[b], d])]), e ∈ fl [[b], [a], d] := fun e l => E e (fl_unfold e l)
 have D := gen_Maker_Pick_w a J K H x.2 (Ad aI 0) 6 ([80, 120, 142, 199, 262, 400]) _ aF (fl [[b], d]) (s.fold (P := [[a]])) (h.sub u) k (bm.sub u) l
 refine x_call 26 #[] #[] [Vp a 0, .slice (Ad aI 0) ([80, 120, 142, 199, 262, 400]).length 6] _ R R R R D ?_
 rintro Z bB ⟨rfl, au, a4⟩
 clear D l
 refine inl1 ?_
 have B : MS aF ([[a]] ++ [[b], d]) := f.pick [some 1, some 0, some 2] _ R
 have v : ∀ e ∈ fl ([[a]] ++ [[b], d]), e ∈ fl [[b], [a], d] := pick_sub [some 1, some 0, some 2] _ R
 have G := Stp.call (LS := [[b], [a], d]) (res := []) (par := [[a]]) (R := [[b], d]) au (fun o n => v o (fl_left' (P := [[a]]) o n)) (FR.nil _) (NP.init _ _) (fun e l => v e (fl_right' (P := [[a]]) e l))
 have F : ∀ e ∈ fl [[b], [a], d], e ∈ fl ([] ++ ([[a]] ++ [[b], d])) := pick_sub [some 1, some 0, some 2] _ R
 have m := G.res F
 replace h := h.step m
 replace j := au.box j ((MS.outs (P := [[a]]) B 0 R) _ mem1)
 replace f := f.ev au
 replace i := i.then au (fun o n => .inl (by simpa using n))
 replace k := a4
 clear s u E B v G F m
 refine x_u 1 [(12, Vp a 0)] (x_buildSlice (vs := [(0, Vi 50), (1, Vi 120), (2, Vi 400), (3, Vi 800), (4, Vi 2000)]) #[Vi 50, Vi 120, Vi 400, Vi 800, Vi 2000] 3 R R R (by kernel_rfl) (fun aG aC bb aQ ae bv => ?_))
 refine inl1 ?_
 have Y := f
 have m := Stp.ext (ls := [[b], [a], d]) ae
 replace h := h.step m
 replace k := ae.box k nn
 replace j := ae.box j nn
 replace f := f.ev ae
 replace i := i.ext ae
 have bk : SlR (eInt .i64) aC (fl [[b], [a], d]) (Ad aG 0) 5 ([50, 120, 400, 800, 2000]) := ro_of_box Y bb aQ R R (cells_at (cs := [Vi 50, Vi 120, Vi 400, Vi 800, Vi 2000]) (CellsOf.cons (c := [Vi 50]) R (CellsOf.cons (c := [Vi 120]) R (CellsOf.cons (c := [Vi 400]) R (CellsOf.cons (c := [Vi 800]) R (CellsOf.cons (c := [Vi 2000]) R CellsOf.nil))))))
 clear aQ Y
 obtain ⟨p, l, q⟩ := bind_some q
 have s : MS aC ([[a]] ++ [[b], d]) := f.pick [some 1, some 0, some 2] _ R
 have E : ∀ e ∈ fl ([[a]] ++ [[b], d]), e ∈ fl [[b], [a], d] := pick_sub [some 1, some 0, some 2] _ R
 have u : ∀ e ∈ fl ([[a]] ++ [(fl [[b], d])]), e ∈ fl [[b], [a], d] := fun e l => E e (fl_unfold e l)
 have D := gen_Maker_Pick_w a J K H t.2 (Ad aG 0) 5 ([50, 120, 400, 800, 2000]) _ aC (fl [[b], d]) (s.fold (P := [[a]])) (h.sub u) k (bk.sub u) l
 refine x_call 26 #[] #[] [Vp a 0, .slice (Ad aG 0) ([50, 120, 400, 800, 2000]).length 5] _ R R R R D ?_
 rintro Z bC ⟨rfl, av, a5⟩
 clear D l
 refine inl1 ?_
 have B : MS aC ([[a]] ++ [[b], d]) := f.pick [some 1, some 0, some 2] _ R
 have v : ∀ e ∈ fl ([[a]] ++ [[b], d]), e ∈ fl [[b], [a], d] := pick_sub [some 1, some 0, some 2] _ R
 have G := Stp.call (LS := [[b], [a], d]) (res := []) (par := [[a]]) (R := [[b], d]) av (fun o n => v o (fl_left' (P := [[a]]) o n)) (FR.nil _) (NP.init _ _) (fun e l => v e (fl_right' (P := [[a]]) e l))
 have F : ∀ e ∈ fl [[b], [a], d], e ∈ fl ([] ++ ([[a]] ++ [[b], d])) := pick_sub [some 1, some 0, some 2] _ R
 have m := G.res F
 replace h := h.step m
 replace j := av.box j ((MS.outs (P := [[a]]) B 0 R) _ mem1)
 replace f := f.ev av
 replace i := i.then av (fun o n => .inl (by simpa using n))
 replace k := a5
 clear s u E B v G F m
 refine x_u 1 [(15, Vp a 0)] (x_buildSlice (vs := [(0, Vi 0), (1, Vi 0), (2, Vi 0), (3, Vi 1), (4, Vi 3), (5, Vi 9)]) #[Vi 0, Vi 0, Vi 0, Vi 1, Vi 3, Vi 9] 3 R R R (by kernel_rfl) (fun aH aD bc aS af bw => ?_))
 refine inl1 ?_
 have Y := f
 have m := Stp.ext (ls := [[b], [a], d]) af
 replace h := h.step m
 replace k := af.box k nn
 replace j := af.box j nn
 replace f := f.ev af
 replace i := i.ext af
 have bl : SlR (eInt .i64) aD (fl [[b], [a], d]) (Ad aH 0) 6 ([0, 0, 0, 1, 3, 9]) := ro_of_box Y bc aS R R (cells_at (cs := [Vi 0, Vi 0, Vi 0, Vi 1, Vi 3, Vi 9]) (CellsOf.cons (c := [Vi 0]) R (CellsOf.cons (c := [Vi 0]) R (CellsOf.cons (c := [Vi 0]) R (CellsOf.cons (c := [Vi 1]) R (CellsOf.cons (c := [Vi 3]) R (CellsOf.cons (c := [Vi 9]) R CellsOf.nil)))))))
 clear aS Y
 obtain ⟨C, l, q⟩ := bind_some q
 have s : MS aD ([[a]] ++ [[b], d]) := f.pick [some 1, some 0, some 2] _ R
 have E : ∀ e ∈ fl ([[a]] ++ [[b], d]), e ∈ fl [[b], [a], d] := pick_sub [some 1, some 0, some 2] _ R
 have u : ∀ e ∈ fl ([[a]] ++ [(fl [[b], d])]), e ∈ fl [[b], [a], d] := fun e l => E e (fl_unfold e l)
 have D := gen_Maker_Pick_w a J K H p.2 (Ad aH 0) 6 ([0, 0, 0, 1, 3, 9]) _ aD (fl [[b], d]) (s.fold (P := [[a]])) (h.sub u) k (bl.sub u) l
 refine x_call 26 #[] #[] [Vp a 0, .slice (Ad aH 0) ([0, 0, 0, 1, 3, 9]).length 6] _ R R R R D ?_
 rintro Z aN ⟨rfl, aw, a6⟩
 clear D l
 refine inl1 ?_
 have B : MS aD ([[a]] ++ [[b], d]) := f.pick [some 1, some 0, some 2] _ R
 have v : ∀ e ∈ fl ([[a]] ++ [[b], d]), e ∈ fl [[b], [a], d] := pick_sub [some 1, some 0, some 2] _ R
 have G := Stp.call (LS := [[b], [a], d]) (res := []) (par := [[a]]) (R := [[b], d]) aw (fun o n => v o (fl_left' (P := [[a]]) o n)) (FR.nil _) (NP.init _ _) (fun e l => v e (fl_right' (P := [[a]]) e l))
 have F : ∀ e ∈ fl [[b], [a], d], e ∈ fl ([] ++ ([[a]] ++ [[b], d])) := pick_sub [some 1, some 0, some 2] _ R
 have m := G.res F
 replace h := h.step m
 replace j := aw.box j ((MS.outs (P := [[a]]) B 0 R) _ mem1)
 replace f := f.ev aw
 replace i := i.then aw (fun o n => .inl (by simpa using n))
 replace k := a6
 clear s u E B v G F m
 refine x_u 1 [(18, Vp a 0)] ?_
 obtain ⟨y, l, q⟩ := bind_some q
 have s : MS aN ([[a]] ++ [[b], d]) := f.pick [some 1, some 0, some 2] _ R
 have E : ∀ e ∈ fl ([[a]] ++ [[b], d]), e ∈ fl [[b], [a], d] := pick_sub [some 1, some 0, some 2] _ R
 have u : ∀ e ∈ fl ([[a]] ++ [(fl [[b], d])]), e ∈ fl [[b], [a], d] := fun e l => E e (fl_unfold e l)
 have D := gen_Maker_Next_w a J K H C.2 5 _ aN (fl [[b], d]) (s.fold (P := [[a]])) (h.sub u) k l
 refine x_call 13 #[] #[] [Vp a 0, Vi 5] _ R R R R D ?_
 rintro Z aO ⟨rfl, ax, a7⟩
 clear D l
 refine inl1 ?_
 have B : MS aN ([[a]] ++ [[b], d]) := f.pick [some 1, some 0, some 2] _ R
 have v : ∀ e ∈ fl ([[a]] ++ [[b], d]), e ∈ fl [[b], [a], d] := pick_sub [some 1, some 0, some 2] _ R
 have G := Stp.call (LS := [[b], [a], d]) (res := []) (par := [[a]]) (R := [[b], d]) ax (fun o n => v o (fl_left' (P := [[a]]) o n)) (FR.nil _) (NP.init _ _) (fun e l => v e (fl_right' (P := [[a]]) e l))
 have F : ∀ e ∈ fl [[b], [a], d], e ∈ fl ([] ++ ([[a]] ++ [[b], d])) := pick_sub [some 1, some 0, some 2] _ R
 have m := G.res F
 replace h := h.step m
 replace j := ax.box j ((MS.outs (P := [[a]]) B 0 R) _ mem1)
 replace f := f.ev ax
 replace i := i.then ax (fun o n => .inl (by simpa using n))
 replace k := a7
 clear s u E B v G F m
 refine x_u 2 [(20, .bool (y.1 == 0)), (21, Vp a 0)] ?_
 obtain ⟨w, l, q⟩ := bind_some q
 have s : MS aO ([[a]] ++ [[b], d]) := f.pick [some 1, some 0, some 2] _ R
 have E : ∀ e ∈ fl ([[a]] ++ [[b], d]), e ∈ fl [[b], [a], d] := pick_sub [some 1, some 0, some 2] _ R
 have u : ∀ e ∈ fl ([[a]] ++ [(fl [[b], d])]), e ∈ fl [[b], [a], d] := fun e l => E e (fl_unfold e l)
 have D := gen_Maker_Name_w a J K H y.2 _ aO (fl [[b], d]) (s.fold (P := [[a]])) (h.sub u) k l
 refine x_call 41 #[] #[] [Vp a 0] _ R R R R D ?_
 rintro Z bD ⟨rfl, ay, a8⟩
 clear D l
 refine inl1 ?_
 have B : MS aO ([[a]] ++ [[b], d]) := f.pick [some 1, some 0, some 2] _ R
 have v : ∀ e ∈ fl ([[a]] ++ [[b], d]), e ∈ fl [[b], [a], d] := pick_sub [some 1, some 0, some 2] _ R
 have G := Stp.call (LS := [[b], [a], d]) (res := []) (par := [[a]]) (R := [[b], d]) ay (fun o n => v o (fl_left' (P := [[a]]) o n)) (FR.nil _) (NP.init _ _) (fun e l => v e (fl_right' (P := [[a]]) e l))
 have F : ∀ e ∈ fl [[b], [a], d], e ∈ fl ([] ++ ([[a]] ++ [[b], d])) := pick_sub [some 1, some 0, some 2] _ R
 have m := G.res F
 replace h := h.step m
 replace j := ay.box j ((MS.outs (P := [[a]]) B 0 R) _ mem1)
 replace f := f.ev ay
 replace i := i.then ay (fun o n => .inl (by simpa using n))
 replace k := a8
 clear s u E B v G F m
 refine x_build (vs := [(0, Vs x.1), (2, Vi 4), (1, Vi t.1), (3, Vi p.1), (5, Vi C.1), (6, .bool (y.1 == 0)), (7, Vs w.1)]) (.agg #[Vs x.1, Vi t.1, Vi 4, Vi p.1, Vi 0, Vi C.1, .bool (y.1 == 0), Vs w.1]) R R R (fun _ _ => by kernel_rfl) ?_
 refine x_alloc (z := .agg #[Vs ([] : List UInt8), Vi 0, Vi 0, Vi 0, Vi 0, Vi 0, .bool false, Vs ([] : List UInt8)]) R R (by kernel_rfl) (fun g bo aJ r ag bx => ?_)
 replace r : bo.heap[g]? = some (.cells #[Vs ([] : List UInt8), Vi 0, Vi 0, Vi 0, Vi 0, Vi 0, .bool false, Vs ([] : List UInt8)] 34 (0, 0)) := r
 refine inl1 ?_
 have m := Stp.box (ls := [[b], [a], d]) ag aJ
 replace h := h.step m
 replace k := ag.box k nn
 replace j := ag.box j nn
 replace f := f.box ag aJ r
 replace A := A.box i.size aJ
 replace i := i.ext ag
 obtain ⟨bp, be, aY, ah⟩ := store_boxagg 0 [Vs x.1, Vi t.1, Vi 4, Vi p.1, Vi 0, Vi C.1, .bool (y.1 == 0), Vs w.1] #[Vs x.1, Vi t.1, Vi 4, Vi p.1, Vi 0, Vi C.1, .bool (y.1 == 0), Vs w.1] tagg34 r R R R
 refine x_store bp (xv := Vp g 0) (yv := .agg #[Vs x.1, Vi t.1, Vi 4, Vi p.1, Vi 0, Vi C.1, .bool (y.1 == 0), Vs w.1]) R R R R be (inl1 ?_)
 have m := Stp.ev' (ls := [[g], [b], [a], d]) ah (mem_flat 0 R)
 replace h := h.step m
 replace k := ah.box k (f.apart 2 0 R R R _ mem1)
 replace j := ah.box j (f.apart 1 0 R R R _ mem1)
 replace f := f.ev ah
 replace i := i.then ah (fun o n => .inr (A.at 0 R o n))
 replace r := aY
 refine x_ek (c_nm [(0, Vp a 0), (4, Vp b 0), (5, Vp g 0)] (fun ap => ?_))
 refine c_join (σ := (List UInt8) × (List UInt8) × Int × Int) (fun ac => match ac with | (aq, ar, N, O) => [(0, Vp a 0), (4, Vp b 0), (5, Vp g 0)]) (fun ac I => match ac with | (aq, ar, N, O) => gen_Maker_Wagon_J26 H x p C y w aq ar N O = some Q ∧ Ev [a] S I ∧ MS I [[b], [g], [a], d] ∧ FR S.heap.size [[b], [g]] ∧ SlR (eInt .i64) I (fl [[b], [g], [a], d]) J K H ∧ I.heap[a]? = some (.cells #[Vl J H K, Vi w.2] 90 (0, 0)) ∧ I.heap[b]? = some (.cells #[Vs aq, Vi 0, Vi 0, Vi 0, Vi 0, Vi 0, .bool false, Vs ar] 34 (0, 0)) ∧ I.heap[g]? = some (.cells #[Vs x.1, Vi N, Vi O, Vi p.1, Vi 0, Vi C.1, .bool (y.1 == 0), Vs w.1] 34 (0, 0))) ?_ ?_
 · refine c_sp (x_fieldAddr (xv := Vp g 0) (Vp g 0) R R R (reads_field tfld34_0 _ _) (x_load (xv := Vp g 0) (Vs x.1) R R R (reads_box tcell9 r nn 0 _ R) ?_))
   obtain ⟨L, bn, q⟩ := bind_some q
   refine x_index (xv := Vs x.1) (yv := Vi 4) (.int .u8 L) R R R R (reads_sindex tstr9 bn) (x_ek (c_block (c_join (σ := (List UInt8) × (List UInt8) × Bool) (fun ac => match ac with | (aa, ab, ao) => [(0, Vp a 0), (4, Vp b 0), (5, Vp g 0), (26, .int .u8 L), (27, .bool ao)]) (fun ac I => match ac with | (aa, ab, ao) => gen_Maker_Wagon_J28 H x t p C y w L aa ab ao = some Q ∧ Ev [a] S I ∧ MS I [[b], [g], [a], d] ∧ FR S.heap.size [[b], [g]] ∧ SlR (eInt .i64) I (fl [[b], [g], [a], d]) J K H ∧ I.heap[a]? = some (.cells #[Vl J H K, Vi w.2] 90 (0, 0)) ∧ I.heap[b]? = some (.cells #[Vs aa, Vi 0, Vi 0, Vi 0, Vi 0, Vi 0, .bool false, Vs ab] 34 (0, 0)) ∧ I.heap[g]? = some (.cells #[Vs x.1, Vi t.1, Vi 4, Vi p.1, Vi 0, Vi C.1, .bool (y.1 == 0), Vs w.1] 34 (0, 0))) ?_ ?_)))
   · refine c_sp (x_u 2 [(28, .bool (L == 50)), (27, .bool (L == 50))] (x_ek (c_if (L == 50) R q (fun q => ?_) (fun q => ?_))))
     · refine c_skip ?_
       have s := f.pick [some 1, some 0, some 2, some 3] [[b], [g], [a], d] R
       have an := pick_sub (ls := [[g], [b], [a], d]) [some 1, some 0, some 2, some 3] [[b], [g], [a], d] R
       replace h := h.sub an
       replace f := s
       replace A := A.pick [some 1, some 0] [[b], [g]] R
       clear s an
       exact k_then ⟨(([] : List UInt8), ([] : List UInt8), true), ⟨R, R, R, R, R, trivial⟩, q, i, f, A, h, k, j, r⟩
     refine c_plain (x_u 2 [(29, .bool (L == 52)), (27, .bool (L == 52))] (x_end R ?_))
     have s := f.pick [some 1, some 0, some 2, some 3] [[b], [g], [a], d] R
     have an := pick_sub (ls := [[g], [b], [a], d]) [some 1, some 0, some 2, some 3] [[b], [g], [a], d] R
     replace h := h.sub an
     replace f := s
     replace A := A.pick [some 1, some 0] [[b], [g]] R
     clear s an
     exact k_then ⟨(([] : List UInt8), ([] : List UInt8), L == 52), ⟨R, R, R, R, R, trivial⟩, q, i, f, A, h, k, j, r⟩
   rintro ⟨aa, ab, ao⟩ ap bG ⟨q, i, f, A, h, k, j, r⟩
   refine c_if ao R q (fun q => ?_) (fun q => ?_)
   · refine c_plain (x_fieldAddr (xv := Vp g 0) (Vp g 2) R R R (reads_field tfld34_2 _ _) ?_)
     obtain ⟨bq, bf, aZ, ai⟩ := store_box 2 (Vi 2) #[Vs x.1, Vi t.1, Vi 2, Vi p.1, Vi 0, Vi C.1, .bool (y.1 == 0), Vs w.1] tcell3 r R R R
     refine x_store bq (xv := Vp g 2) (yv := Vi 2) R R R R bf (inl1 ?_)
     have m := Stp.ev' (ls := [[b], [g], [a], d]) ai (mem_flat 1 R)
     replace k := ai.box k (f.apart 2 1 R R R _ mem1)
     replace h := h.step m
     replace j := ai.box j (f.apart 0 1 R R R _ mem1)
     replace f := f.ev ai
     replace i := i.then ai (fun o n => .inr (A.at 1 R o n))
     replace r := aZ
     refine x_end R (k_block ?_)
     exact k_then ⟨(aa, ab, t.1, 2), ⟨R, R, R, trivial⟩, q, i, f, A, h, k, j, r⟩
   refine c_sp (x_u 2 [(32, .bool (L == 57)), (31, .bool (L == 57))] (x_ek (c_nm [(0, Vp a 0), (4, Vp b 0), (5, Vp g 0), (31, .bool (L == 57))] (fun ap => ?_))))
   refine c_if (L == 57) R q (fun q => ?_) (fun q => ?_)
   · refine c_sp (x_fieldAddr (xv := Vp g 0) (Vp g 2) R R R (reads_field tfld34_2 _ _) ?_)
     obtain ⟨br, bg, a0, aj⟩ := store_box 2 (Vi 6) #[Vs x.1, Vi t.1, Vi 6, Vi p.1, Vi 0, Vi C.1, .bool (y.1 == 0), Vs w.1] tcell3 r R R R
     refine x_store br (xv := Vp g 2) (yv := Vi 6) R R R R bg (inl1 ?_)
     have m := Stp.ev' (ls := [[b], [g], [a], d]) aj (mem_flat 1 R)
     replace k := aj.box k (f.apart 2 1 R R R _ mem1)
     replace h := h.step m
     replace j := aj.box j (f.apart 0 1 R R R _ mem1)
     replace f := f.ev aj
     replace i := i.then aj (fun o n => .inr (A.at 1 R o n))
     replace r := a0
     refine x_ek (c_plain (x_fieldAddr (xv := Vp g 0) (Vp g 1) R R R (reads_field tfld34_1 _ _) (x_load (xv := Vp g 1) (Vi t.1) R R R (reads_box tcell3 r nn 1 _ R) (x_max (vs := [Vi t.1, Vi 120]) (Vi (if 120 > t.1 then 120 else t.1)) R R R (fun _ _ => R) (x_fieldAddr (xv := Vp g 0) (Vp g 1) R R R (reads_field tfld34_1 _ _) ?_)))))
     obtain ⟨bs, bh, a1, ak⟩ := store_box 1 (Vi (if 120 > t.1 then 120 else t.1)) #[Vs x.1, Vi (if 120 > t.1 then 120 else t.1), Vi 6, Vi p.1, Vi 0, Vi C.1, .bool (y.1 == 0), Vs w.1] tcell3 r R R R
     refine x_store bs (xv := Vp g 1) (yv := Vi (if 120 > t.1 then 120 else t.1)) R R R R bh (inl1 ?_)
     have m := Stp.ev' (ls := [[b], [g], [a], d]) ak (mem_flat 1 R)
     replace k := ak.box k (f.apart 2 1 R R R _ mem1)
     replace h := h.step m
     replace j := ak.box j (f.apart 0 1 R R R _ mem1)
     replace f := f.ev ak
     replace i := i.then ak (fun o n => .inr (A.at 1 R o n))
     replace r := a1
     refine x_end R (k_block ?_)
     exact k_then ⟨(aa, ab, if 120 > t.1 then 120 else t.1, 6), ⟨R, R, R, trivial⟩, q, i, f, A, h, k, j, r⟩
   refine c_skip (k_block ?_)
   exact k_then ⟨(aa, ab, t.1, 4), ⟨R, R, R, trivial⟩, q, i, f, A, h, k, j, r⟩
 rintro ⟨aq, ar, N, O⟩ ap X ⟨q, i, f, A, h, k, j, r⟩
 refine c_seq (c_drawn [a] [(0, false), (1, false), (2, true), (3, false), (4, true), (5, true), (6, true), (7, true)] _ (by kernel_rfl) R ?_)
 have m := Stp.ext (ls := [[b], [g], [a], d]) (Ev.drew X)
 replace k := (Ev.drew X).box k nn
 replace h := h.step m
 replace j := (Ev.drew X).box j nn
 replace r := (Ev.drew X).box r nn
 replace f := f.ev (Ev.drew X)
 replace i := i.ext (Ev.drew X)
 refine x_fieldAddr (xv := Vp g 0) (Vp g 3) R R R (reads_field tfld34_3 _ _) (x_load (xv := Vp g 3) (Vi p.1) R R R (reads_box tcell3 r ((f.apart 1 2 R R R) _ mem1) 3 _ R) (x_u 1 [(40, Vp a 0)] ?_))
 obtain ⟨U, l, q⟩ := bind_some q
 have s : MS (X).drew ([[a]] ++ [[b], [g], d]) := f.pick [some 2, some 0, some 1, some 3] _ R
 have E : ∀ e ∈ fl ([[a]] ++ [[b], [g], d]), e ∈ fl [[b], [g], [a], d] := pick_sub [some 2, some 0, some 1, some 3] _ R
 have u : ∀ e ∈ fl ([[a]] ++ [(fl [[b], [g], d])]), e ∈ fl [[b], [g], [a], d] := fun e l => E e (fl_unfold e l)
 have D := gen_Maker_Next_w a J K H w.2 5 _ (X).drew (fl [[b], [g], d]) (s.fold (P := [[a]])) (h.sub u) k l
 refine x_call 13 #[] #[] [Vp a 0, Vi 5] _ R R R R D ?_
 rintro Z bE ⟨rfl, al, a9⟩
 clear D l
 refine ⟨.inr al, ?_⟩
 have B : MS (X).drew ([[a]] ++ [[b], [g], d]) := f.pick [some 2, some 0, some 1, some 3] _ R
 replace j := al.box j ((MS.outs (P := [[a]]) B 0 R) _ mem1)
 replace r := al.box r ((MS.outs (P := [[a]]) B 1 R) _ mem1)
 replace f := f.ev al
 replace i := i.then al (fun o n => .inl (by simpa using n))
 replace k := a9
 clear s u E B m
 refine x_u 2 [(42, Vi (i64.wrap (p.1 * U.1))), (43, Vi (i64.wrap (Int.tdiv (i64.wrap (p.1 * U.1)) 4)))] (x_fieldAddr (xv := Vp g 0) (Vp g 4) R R R (reads_field tfld34_4 _ _) ?_)
 obtain ⟨bt, bi, a2, aA⟩ := store_box 4 (Vi (i64.wrap (Int.tdiv (i64.wrap (p.1 * U.1)) 4))) #[Vs x.1, Vi N, Vi O, Vi p.1, Vi (i64.wrap (Int.tdiv (i64.wrap (p.1 * U.1)) 4)), Vi C.1, .bool (y.1 == 0), Vs w.1] tcell3 r R R R
 refine x_store bt (xv := Vp g 4) (yv := Vi (i64.wrap (Int.tdiv (i64.wrap (p.1 * U.1)) 4))) R R R R bi (inl1 ?_)
 replace k := aA.box k (f.apart 2 1 R R R _ mem1)
 replace j := aA.box j (f.apart 0 1 R R R _ mem1)
 replace f := f.ev aA
 replace i := i.then aA (fun o n => .inr (A.at 1 R o n))
 replace r := a2
 refine x_ek (c_nm [(4, Vp b 0), (5, Vp g 0)] (fun ap => ?_))
 refine c_sp (x_load (xv := Vp g 0) (.agg #[Vs x.1, Vi N, Vi O, Vi p.1, Vi (i64.wrap (Int.tdiv (i64.wrap (p.1 * U.1)) 4)), Vi C.1, .bool (y.1 == 0), Vs w.1]) R R R (reads_boxagg 0 [Vs x.1, Vi N, Vi O, Vi p.1, Vi (i64.wrap (Int.tdiv (i64.wrap (p.1 * U.1)) 4)), Vi C.1, .bool (y.1 == 0), Vs w.1] tagg34 r nn R) ?_)
 obtain ⟨bu, bj, a3, aX⟩ := store_boxagg 0 [Vs x.1, Vi N, Vi O, Vi p.1, Vi (i64.wrap (Int.tdiv (i64.wrap (p.1 * U.1)) 4)), Vi C.1, .bool (y.1 == 0), Vs w.1] #[Vs x.1, Vi N, Vi O, Vi p.1, Vi (i64.wrap (Int.tdiv (i64.wrap (p.1 * U.1)) 4)), Vi C.1, .bool (y.1 == 0), Vs w.1] tagg34 j R R R
 refine x_store bu (xv := Vp b 0) (yv := .agg #[Vs x.1, Vi N, Vi O, Vi p.1, Vi (i64.wrap (Int.tdiv (i64.wrap (p.1 * U.1)) 4)), Vi C.1, .bool (y.1 == 0), Vs w.1]) R R R R bj (inl1 ?_)
 replace k := aX.box k (f.apart 2 0 R R R _ mem1)
 replace i := i.then aX (fun o n => .inr (A.at 0 R o n))
 replace j := a3
 refine x_ek (c_ret (r_ret (r_vals [.agg #[Vs x.1, Vi N, Vi O, Vi p.1, Vi (i64.wrap (Int.tdiv (i64.wrap (p.1 * U.1)) 4)), Vi C.1, .bool (y.1 == 0), Vs w.1]] ⟨⟨_, R, loadVar_of_reads (reads_boxagg (Mo := []) 0 [Vs x.1, Vi N, Vi O, Vi p.1, Vi (i64.wrap (Int.tdiv (i64.wrap (p.1 * U.1)) 4)), Vi C.1, .bool (y.1 == 0), Vs w.1] tagg34 j nn R)⟩, trivial⟩ ?_)))
 obtain rfl := some_inj q
 exact ⟨R, i, k⟩
def gen_Maker_Wagons_L5 (e : List Int) (f : Int × (List ((List UInt8) × Int × Int × Int × Int × Int × Bool × (List UInt8))) × Int) : Option (Step (Int × (List ((List UInt8) × Int × Int × Int × Int × Int × Bool × (List UInt8))) × Int) (Int × (List ((List UInt8) × Int × Int × Int × Int × Int × Bool × (List UInt8))))) :=
match f with
| (c, b, d) =>
(if (decide (d > 0)) = true then
((gen_Maker_Wagon e c ((b).length : Int)).bind fun a =>
(if b.length + ([(a.1.1, a.1.2.1, a.1.2.2.1, a.1.2.2.2.1, a.1.2.2.2.2.1, a.1.2.2.2.2.2.1, a.1.2.2.2.2.2.2.1, a.1.2.2.2.2.2.2.2)] : List ((List UInt8) × Int × Int × Int × Int × Int × Bool × (List UInt8))).length ≤ 4294967296 then
some (.next (a.2, (b ++ ([(a.1.1, a.1.2.1, a.1.2.2.1, a.1.2.2.2.1, a.1.2.2.2.2.1, a.1.2.2.2.2.2.1, a.1.2.2.2.2.2.2.1, a.1.2.2.2.2.2.2.2)] : List ((List UInt8) × Int × Int × Int × Int × Int × Bool × (List UInt8)))), i64.wrap (d - 1)))
else none))
else
some (.done (c, b)))
def gen_Maker_Wagons (a : List Int) (f : Int) (g : Int) : Option ((List ((List UInt8) × Int × Int × Int × Int × Int × Bool × (List UInt8))) × Int) :=
((gen_Maker_Next a f (i64.wrap (g + 1))).bind fun b =>
((loop (gen_Maker_Wagons_L5 a) (b.2, ([] : List ((List UInt8) × Int × Int × Int × Int × Int × Bool × (List UInt8))), b.1)).bind fun c => match c with
| (e, d) => some (d, e)))
theorem gen_Maker_Wagons_w (b : Nat) (y : Option Addr) (z : Nat) (w : List Int) (ab : Int) (B : Int) (X : (List ((List UInt8) × Int × Int × Int × Int × Int × Bool × (List UInt8))) × Int) (o : World) (d : List Nat) (i : MS o [[b], d]) (j : SlR (eInt .i64) o (fl [[b], d]) y z w) (m : o.heap[b]? = some (.cells #[Vl y w z, Vi ab] 90 (0, 0))) (g : gen_Maker_Wagons w ab B = some X) : CallVC Tryz.prog 11 [Vp b 0, Vi B] o fun ac u => ∃ (D : Option Addr), ∃ (ai : Nat), ac = Vl D X.1 ai ∧ Ev [b] o u ∧ u.heap[b]? = some (.cells #[Vl y w z, Vi X.2] 90 (0, 0)) ∧ MS u [blk D, [b], d] ∧ FR o.heap.size [blk D] ∧ OwnS (eProd eStr (eProd (eInt .i64) (eProd (eInt .i64) (eProd (eInt .i64) (eProd (eInt .i64) (eProd (eInt .i64) (eProd eBool eStr))))))) 34 u (fl [blk D, [b], d]) D ai X.1 := by
 refine calls_vc hmx Tryz.func11 (by kernel_rfl) R (rs := [.tmp 4]) R (by kernel_rfl) (args := [Vp b 0, Vi B]) R ?_
 have r : Ev [b] o o := Ev.refl _ _
 have v : FR o.heap.size [] := FR.nil _
 refine c_sp (x_u 1 [(4, .slice none 0 0)] (x_ek (c_sp (x_u 1 [(5, .slice none 0 0)] (x_ek (c_seq (c_sp (x_u 3 [(7, Vp b 0), (8, Vi B), (9, Vi (i64.wrap (B + 1)))] ?_))))))))
 obtain ⟨af, s, g⟩ := bind_some g
 have I : MS o ([[b]] ++ [d]) := i.pick [some 0, some 1] _ R
 have K : ∀ f ∈ fl ([[b]] ++ [d]), f ∈ fl [[b], d] := pick_sub [some 0, some 1] _ R
 have J : ∀ f ∈ fl ([[b]] ++ [(fl [d])]), f ∈ fl [[b], d] := fun f s => K f (fl_unfold f s)
 have F := gen_Maker_Next_w b y z w ab (i64.wrap (B + 1)) _ o (fl [d]) (I.fold (P := [[b]])) (j.sub J) m s
 refine x_call 13 #[] #[] [Vp b 0, Vi (i64.wrap (B + 1))] _ R R R R F ?_
 rintro ac aq ⟨rfl, Z, aA⟩
 clear F s
 refine inl1 ?_
 have A : ∀ f ∈ fl ([[b]] ++ [d]), f ∈ fl [[b], d] := pick_sub [some 0, some 1] _ R
 have N := Stp.call (LS := [[b], d]) (res := []) (par := [[b]]) (R := [d]) Z (fun p q => A p (fl_left' (P := [[b]]) p q)) (FR.nil _) (NP.init _ _) (fun f s => A f (fl_right' (P := [[b]]) f s))
 have L : ∀ f ∈ fl [[b], d], f ∈ fl ([] ++ ([[b]] ++ [d])) := pick_sub [some 0, some 1] _ R
 have n := N.res L
 replace j := j.step n
 replace i := i.ev Z
 replace r := r.then Z (fun p q => .inl (by simpa using q))
 replace m := aA
 clear I J K A N L n
 refine x_u 1 [(6, Vi af.1)] (x_ek (c_block ?_))
 have n := Stp.push (ls := [[b], d]) (l := blk none) (Ev.refl [] aq) (fun _ g => by cases g) (fun _ g => by cases g)
 replace j := j.step n
 replace m := (Ev.refl [] _).box m nn
 replace i := i.push (l := blk none) (Ev.refl [] _) (fun _ g => by cases g)
 replace v := v.push (l := blk none) (fun _ g => by cases g)
 have ay := OwnS.nil (eProd eStr (eProd (eInt .i64) (eProd (eInt .i64) (eProd (eInt .i64) (eProd (eInt .i64) (eProd (eInt .i64) (eProd eBool eStr))))))) 34 aq (fl [blk none, [b], d])
 obtain ⟨ar, Y, au⟩ := bind_some g
 obtain ⟨O, Y⟩ := loop_some Y
 refine c_loop (loop_rule hmx (σ := Nat × Int × (List ((List UInt8) × Int × Int × Int × Int × Int × Bool × (List UInt8))) × Int × Option Addr × Nat) (fun Q => match Q with | (_, E, h, t, e, k) => [(0, Vp b 0), (5, Vl e h k), (6, Vi t)]) (fun Q u => match Q with | (aG, E, h, t, e, k) => loopN (gen_Maker_Wagons_L5 w) aG (E, h, t) = some ar ∧ Ev [b] o u ∧ MS u [blk e, [b], d] ∧ FR o.heap.size [blk e] ∧ SlR (eInt .i64) u (fl [blk e, [b], d]) y z w ∧ u.heap[b]? = some (.cells #[Vl y w z, Vi E] 90 (0, 0)) ∧ OwnS (eProd eStr (eProd (eInt .i64) (eProd (eInt .i64) (eProd (eInt .i64) (eProd (eInt .i64) (eProd (eInt .i64) (eProd eBool eStr))))))) 34 u (fl [blk e, [b], d]) e k h) (fun Q => Q.1) (O, af.2, ([] : List ((List UInt8) × Int × Int × Int × Int × Int × Bool × (List UInt8))), af.1, none, 0) ⟨R, R, R, trivial⟩ ⟨Y, r, i, v, j, m, ay⟩ ?_)
 rintro ⟨O, E, h, t, e, k⟩ ag ae ⟨H, r, i, v, j, m, x⟩
 rcases O with _ | O
 · exact (loopN_zero H).elim
 obtain ⟨aJ, g, H⟩ := bind_some H
 refine c_seq (c_sp (x_u 2 [(11, Vi t), (12, .bool (decide (t > 0)))] (x_ek (c_nm [(0, Vp b 0), (5, Vl e h k), (6, Vi t), (12, .bool (decide (t > 0)))] (fun ag => ?_)))))
 refine c_if (decide (t > 0)) R g (fun g => ?_) (fun g => ?_)
 · refine c_skip (k_then (c_seq (c_block (c_plain (x_u 3 [(15, Vl e h k), (16, Vp b 0), (17, Vl e h k)] (x_len (vs := [Vl e h k]) (Vi ((h).length : Int)) R R R (reads_len tsl24 _ _ _ _ _) ?_))))))
   obtain ⟨a, s, g⟩ := bind_some g
   have I : MS ae ([[b]] ++ [blk e, d]) := i.pick [some 1, some 0, some 2] _ R
   have K : ∀ f ∈ fl ([[b]] ++ [blk e, d]), f ∈ fl [blk e, [b], d] := pick_sub [some 1, some 0, some 2] _ R
   have J : ∀ f ∈ fl ([[b]] ++ [(fl [blk e, d])]), f ∈ fl [blk e, [b], d] := fun f s => K f (fl_unfold f s)
   have F := gen_Maker_Wagon_w b y z w E ((h).length : Int) _ ae (fl [blk e, d]) (I.fold (P := [[b]])) (j.sub J) m s
   refine x_call 29 #[] #[] [Vp b 0, Vi ((h).length : Int)] _ R R R R F ?_
   rintro ac aK ⟨rfl, S, az⟩
   clear F s
   refine inl1 ?_
   have an : MS ae ([[b]] ++ [blk e, d]) := i.pick [some 1, some 0, some 2] _ R
   have A : ∀ f ∈ fl ([[b]] ++ [blk e, d]), f ∈ fl [blk e, [b], d] := pick_sub [some 1, some 0, some 2] _ R
   have N := Stp.call (LS := [blk e, [b], d]) (res := []) (par := [[b]]) (R := [blk e, d]) S (fun p q => A p (fl_left' (P := [[b]]) p q)) (FR.nil _) (NP.init _ _) (fun f s => A f (fl_right' (P := [[b]]) f s))
   have L : ∀ f ∈ fl [blk e, [b], d], f ∈ fl ([] ++ ([[b]] ++ [blk e, d])) := pick_sub [some 1, some 0, some 2] _ R
   have n := N.res L
   replace j := j.step n
   replace x := x.step n S (MS.outs (P := [[b]]) an 0 R)
   replace i := i.ev S
   replace r := r.then S (fun p q => .inl (by simpa using q))
   replace m := az
   clear I J K an A N L n
   refine x_buildSlice (vs := [(0, .agg #[Vs a.1.1, Vi a.1.2.1, Vi a.1.2.2.1, Vi a.1.2.2.2.1, Vi a.1.2.2.2.2.1, Vi a.1.2.2.2.2.2.1, .bool a.1.2.2.2.2.2.2.1, Vs a.1.2.2.2.2.2.2.2])]) #[Vs a.1.1, Vi a.1.2.1, Vi a.1.2.2.1, Vi a.1.2.2.2.1, Vi a.1.2.2.2.2.1, Vi a.1.2.2.2.2.2.1, .bool a.1.2.2.2.2.2.2.1, Vs a.1.2.2.2.2.2.2.2] 34 R R R (by kernel_rfl) (fun ah ap aB ak G aI => ?_)
   refine inl1 ?_
   have am := i
   have n := Stp.ext (ls := [blk e, [b], d]) G
   replace m := G.box m nn
   replace j := j.step n
   replace x := x.step n G nn2
   replace i := i.ev G
   replace r := r.ext G
   have aD : SlR (eProd eStr (eProd (eInt .i64) (eProd (eInt .i64) (eProd (eInt .i64) (eProd (eInt .i64) (eProd (eInt .i64) (eProd eBool eStr))))))) ap (fl [blk e, [b], d]) (Ad ah 0) 1 ([(a.1.1, a.1.2.1, a.1.2.2.1, a.1.2.2.2.1, a.1.2.2.2.2.1, a.1.2.2.2.2.2.1, a.1.2.2.2.2.2.2.1, a.1.2.2.2.2.2.2.2)] : List ((List UInt8) × Int × Int × Int × Int × Int × Bool × (List UInt8))) := ro_of_box am aB ak R R (cells_at (cs := [Vs a.1.1, Vi a.1.2.1, Vi a.1.2.2.1, Vi a.1.2.2.2.1, Vi a.1.2.2.2.2.1, Vi a.1.2.2.2.2.2.1, .bool a.1.2.2.2.2.2.2.1, Vs a.1.2.2.2.2.2.2.2]) (CellsOf.cons (c := [Vs a.1.1, Vi a.1.2.1, Vi a.1.2.2.1, Vi a.1.2.2.2.1, Vi a.1.2.2.2.2.1, Vi a.1.2.2.2.2.2.1, .bool a.1.2.2.2.2.2.2.1, Vs a.1.2.2.2.2.2.2.2]) ⟨[Vs a.1.1], [Vi a.1.2.1, Vi a.1.2.2.1, Vi a.1.2.2.2.1, Vi a.1.2.2.2.2.1, Vi a.1.2.2.2.2.2.1, .bool a.1.2.2.2.2.2.2.1, Vs a.1.2.2.2.2.2.2.2], R, R, ⟨[Vi a.1.2.1], [Vi a.1.2.2.1, Vi a.1.2.2.2.1, Vi a.1.2.2.2.2.1, Vi a.1.2.2.2.2.2.1, .bool a.1.2.2.2.2.2.2.1, Vs a.1.2.2.2.2.2.2.2], R, R, ⟨[Vi a.1.2.2.1], [Vi a.1.2.2.2.1, Vi a.1.2.2.2.2.1, Vi a.1.2.2.2.2.2.1, .bool a.1.2.2.2.2.2.2.1, Vs a.1.2.2.2.2.2.2.2], R, R, ⟨[Vi a.1.2.2.2.1], [Vi a.1.2.2.2.2.1, Vi a.1.2.2.2.2.2.1, .bool a.1.2.2.2.2.2.2.1, Vs a.1.2.2.2.2.2.2.2], R, R, ⟨[Vi a.1.2.2.2.2.1], [Vi a.1.2.2.2.2.2.1, .bool a.1.2.2.2.2.2.2.1, Vs a.1.2.2.2.2.2.2.2], R, R, ⟨[Vi a.1.2.2.2.2.2.1], [.bool a.1.2.2.2.2.2.2.1, Vs a.1.2.2.2.2.2.2.2], R, R, ⟨[.bool a.1.2.2.2.2.2.2.1], [Vs a.1.2.2.2.2.2.2.2], R, R, R⟩⟩⟩⟩⟩⟩⟩ CellsOf.nil))
   clear ak am
   have aw := guard_l g
   replace g := guard_r g
   obtain ⟨C, aj, ad, aC, U, aa, aH, ao⟩ := own_appendN tel24 24 x (mem_flat 0 R) aD aw
   refine x_builtin (vs := [Vl e h k, .slice (Ad ah 0) (([(a.1.1, a.1.2.1, a.1.2.2.1, a.1.2.2.2.1, a.1.2.2.2.2.1, a.1.2.2.2.2.2.1, a.1.2.2.2.2.2.2.1, a.1.2.2.2.2.2.2.2)] : List ((List UInt8) × Int × Int × Int × Int × Int × Bool × (List UInt8)))).length 1]) _ ad R R R R (run_value _ _ _ _ aC) (inl1 ?_)
   have n : Stp (fl [blk e, [b], d]) ap (fl [blk C, [b], d]) ad := Stp.upd 0 U R (fun p q => (aa p q).1)
   replace m := U.box m (i.apart 1 0 R R R _ mem1)
   replace j := j.step n
   replace i : MS ad [blk C, [b], d] := i.upd 0 U R aa
   have al : FR o.heap.size [blk C] := v.upd 0 R r.size (fun p q => (aa p q).1)
   replace r := r.then U (fun p q => .inr (v.at 0 R p q))
   replace v := al
   clear al
   replace x := ao (fl [blk C, [b], d]) n.new
   clear ao
   refine x_u 1 [(5, .slice C ((h ++ ([(a.1.1, a.1.2.1, a.1.2.2.1, a.1.2.2.2.1, a.1.2.2.2.2.1, a.1.2.2.2.2.2.1, a.1.2.2.2.2.2.2.1, a.1.2.2.2.2.2.2.2)] : List ((List UInt8) × Int × Int × Int × Int × Int × Bool × (List UInt8))))).length aj)] (x_end R (k_block (k_then (c_plain (x_u 3 [(13, Vi t), (14, Vi (i64.wrap (t - 1))), (6, Vi (i64.wrap (t - 1)))] (x_end R ?_))))))
   obtain rfl := some_inj g
   exact k_then ⟨(O, a.2, (h ++ ([(a.1.1, a.1.2.1, a.1.2.2.1, a.1.2.2.2.1, a.1.2.2.2.2.1, a.1.2.2.2.2.2.1, a.1.2.2.2.2.2.2.1, a.1.2.2.2.2.2.2.2)] : List ((List UInt8) × Int × Int × Int × Int × Int × Bool × (List UInt8)))), i64.wrap (t - 1), C, aj), ⟨R, R, R, trivial⟩, ⟨H, r, i, v, j, m, x⟩, Nat.lt_succ_self _⟩
 refine c_exit (k_then_exit ?_)
 obtain rfl := some_inj g
 have aF := some_inj H
 subst aF
 replace g := au
 refine k_then_exit (k_block_in (k_then (c_nm [(5, Vl e h k)] (fun ag => ?_))))
 refine c_sp (x_u 2 [(22, Vl e h k), (4, Vl e h k)] (x_ek (c_ret (r_ret (r_vals [Vl e h k] ⟨R, trivial⟩ ?_)))))
 obtain rfl := some_inj g
 have ax := i.pick [some 0, some 1, some 2] [blk e, [b], d] R
 have aE := pick_sub (ls := [blk e, [b], d]) [some 0, some 1, some 2] [blk e, [b], d] R
 have av := v.pick [some 0] [blk e] R
 exact ⟨e, k, R, r, m, ax, av, x.sub aE⟩
end Go.Proofs.YtlejnkhaphlooaaGreat
