
/- Walks, printed by program: each function returns what the partial function of the same name returns. Conditions: those of each theorem. -/
import Derived.Test.YtlejnkhaphlooaaGreatGT
import Derived.Test.YtlejnkhaphlooaaGreatGgen
set_option linter.unusedVariables false
set_option linter.unusedSimpArgs false
set_option maxRecDepth 4000
namespace Go.Proofs.YtlejnkhaphlooaaGreat
open Go Go.V Go.Proofs Go.IntKind
def law17_orders_L13 (e : List Int) (f : Int × (List (List UInt8)) × Int) : Option (Step (Int × (List (List UInt8)) × Int) (Int × (List (List UInt8)))) :=
match f with
| (c, a, d) =>
(if (decide (d > 0)) = true then
((gen_Maker_Name e c).bind fun b =>
(if a.length + ([b.1] : List (List UInt8)).length ≤ 4294967296 then
some (.next (b.2, (a ++ ([b.1] : List (List UInt8))), i64.wrap (d - 1)))
else none))
else
some (.done (c, a)))
def law17_orders_L5 (e : List Int) (i : Int × (List (List (List UInt8))) × Int) : Option (Step (Int × (List (List (List UInt8))) × Int) (Int × (List (List (List UInt8))))) :=
match i with
| (c, a, d) =>
(if (decide (d > 0)) = true then
((gen_Maker_Next e c 5).bind fun f =>
((loop (law17_orders_L13 e) (f.2, ([] : List (List UInt8)), f.1)).bind fun g => match g with
| (h, b) => (if a.length + ([(b)] : List (List (List UInt8))).length ≤ 4294967296 then
some (.next (h, (a ++ ([(b)] : List (List (List UInt8)))), i64.wrap (d - 1)))
else none)))
else
some (.done (c, a)))
def law17_orders (a : List Int) (f : Int) : Option ((List (List (List UInt8))) × Int) :=
((gen_Maker_From a f 1 4).bind fun b =>
((loop (law17_orders_L5 a) (b.2, ([] : List (List (List UInt8))), b.1)).bind fun c => match c with
| (e, d) => some (d, e)))
theorem law17_orders_w (a : Nat) (L : Option Addr) (N : Nat) (G : List Int) (aJ : Int) (aw : (List (List (List UInt8))) × Int) (y : World) (b : List Nat) (f : MS y [[a], b]) (j : SlR (eInt .i64) y (fl [[a], b]) L N G) (m : y.heap[a]? = some (.cells #[Vl L G N, Vi aJ] 90 (0, 0))) (g : law17_orders G aJ = some aw) : CallVC Tryz.prog 12 [Vp a 0] y fun ax w => ∃ (ah : Option Addr), ∃ (aU : Nat), ax = Vl ah aw.1 aU ∧ Ev [a] y w ∧ w.heap[a]? = some (.cells #[Vl L G N, Vi aw.2] 90 (0, 0)) ∧ MS w [blk ah, [a], b] ∧ FR y.heap.size [blk ah] ∧ OwnS (eSl eStr) 31 w (fl [blk ah, [a], b]) ah aU aw.1 := by
 refine calls_vc hmx Tryz.func12 (by kernel_rfl) R (rs := [.tmp 2]) R (by kernel_rfl) (args := [Vp a 0]) R ?_
 have o : Ev [a] y y := Ev.refl _ _
 have p : FR y.heap.size [] := FR.nil _
 refine c_sp (x_u 1 [(2, .slice none 0 0)] (x_ek (c_sp (x_u 1 [(3, .slice none 0 0)] (x_ek (c_seq (c_sp (x_u 1 [(7, Vp a 0)] ?_))))))))
 obtain ⟨aO, u, g⟩ := bind_some g
 have x : MS y ([[a]] ++ [b]) := f.pick [some 0, some 1] _ R
 have Z : ∀ i ∈ fl ([[a]] ++ [b]), i ∈ fl [[a], b] := pick_sub [some 0, some 1] _ R
 have Y : ∀ i ∈ fl ([[a]] ++ [(fl [b])]), i ∈ fl [[a], b] := fun i u => Z i (fl_unfold i u)
 have S := gen_Maker_From_w a L N G aJ 1 4 _ y (fl [b]) (x.fold (P := [[a]])) (j.sub Y) m u
 refine x_call 37 #[] #[] [Vp a 0, Vi 1, Vi 4] _ R R R R S ?_
 rintro ax a5 ⟨rfl, aB, bg⟩
 clear S u
 refine inl1 ?_
 have H : ∀ i ∈ fl ([[a]] ++ [b]), i ∈ fl [[a], b] := pick_sub [some 0, some 1] _ R
 have ab := Stp.call (LS := [[a], b]) (res := []) (par := [[a]]) (R := [b]) aB (fun q r => H q (fl_left' (P := [[a]]) q r)) (FR.nil _) (NP.init _ _) (fun i u => H i (fl_right' (P := [[a]]) i u))
 have aa : ∀ i ∈ fl [[a], b], i ∈ fl ([] ++ ([[a]] ++ [b])) := pick_sub [some 0, some 1] _ R
 have h := ab.res aa
 replace j := j.step h
 replace f := f.ev aB
 replace o := o.then aB (fun q r => .inl (by simpa using r))
 replace m := bg
 clear x Y Z H ab aa h
 refine x_u 1 [(4, Vi aO.1)] (x_ek (c_block ?_))
 have h := Stp.push (ls := [[a], b]) (l := blk none) (Ev.refl [] a5) (fun _ g => by cases g) (fun _ g => by cases g)
 replace j := j.step h
 replace m := (Ev.refl [] _).box m nn
 replace f := f.push (l := blk none) (Ev.refl [] _) (fun _ g => by cases g)
 replace p := p.push (l := blk none) (fun _ g => by cases g)
 have bd := OwnS.nil (eSl eStr) 31 a5 (fl [blk none, [a], b])
 obtain ⟨a7, aA, a9⟩ := bind_some g
 obtain ⟨ar, aA⟩ := loop_some aA
 refine c_loop (loop_rule hmx (σ := Nat × Int × (List (List (List UInt8))) × Int × Option Addr × Nat) (fun I => match I with | (_, ai, v, C, d, A) => [(0, Vp a 0), (3, Vl d v A), (4, Vi C)]) (fun I w => match I with | (aI, ai, v, C, d, A) => loopN (law17_orders_L5 G) aI (ai, v, C) = some a7 ∧ Ev [a] y w ∧ MS w [blk d, [a], b] ∧ FR y.heap.size [blk d] ∧ SlR (eInt .i64) w (fl [blk d, [a], b]) L N G ∧ w.heap[a]? = some (.cells #[Vl L G N, Vi ai] 90 (0, 0)) ∧ OwnS (eSl eStr) 31 w (fl [blk d, [a], b]) d A v) (fun I => I.1) (ar, aO.2, ([] : List (List (List UInt8))), aO.1, none, 0) ⟨R, R, R, trivial⟩ ⟨aA, o, f, p, j, m, bd⟩ ?_)
 rintro ⟨ar, ai, v, C, d, A⟩ ag bx ⟨ap, o, f, p, j, m, n⟩
 rcases ar with _ | ar
 · exact (loopN_zero ap).elim
 obtain ⟨bv, g, ap⟩ := bind_some ap
 refine c_seq (c_sp (x_u 2 [(9, Vi C), (10, .bool (decide (C > 0)))] (x_ek (c_nm [(0, Vp a 0), (3, Vl d v A), (4, Vi C), (10, .bool (decide (C > 0)))] (fun ag => ?_)))))
 refine c_if (decide (C > 0)) R g (fun g => ?_) (fun g => ?_)
 · refine c_skip (k_then (c_seq (c_block (c_sp (x_alloc (z := .agg #[.slice none 0 0]) R R (by kernel_rfl) (fun e ay aG s al bt => ?_))))))
   replace s : ay.heap[e]? = some (.cells #[.slice none 0 0] 31 (0, 0)) := s
   refine inl1 ?_
   have h := Stp.box (ls := [blk d, [a], b]) al aG
   replace m := al.box m nn
   replace j := j.step h
   replace n := n.step h al nn2
   replace f := f.box al aG s
   replace p := p.box o.size aG
   replace o := o.ext al
   refine x_ek (c_seq (c_sp (x_u 1 [(13, Vp a 0)] ?_)))
   obtain ⟨aN, u, g⟩ := bind_some g
   have x : MS ay ([[a]] ++ [[e], blk d, b]) := f.pick [some 2, some 0, some 1, some 3] _ R
   have Z : ∀ i ∈ fl ([[a]] ++ [[e], blk d, b]), i ∈ fl [[e], blk d, [a], b] := pick_sub [some 2, some 0, some 1, some 3] _ R
   have Y : ∀ i ∈ fl ([[a]] ++ [(fl [[e], blk d, b])]), i ∈ fl [[e], blk d, [a], b] := fun i u => Z i (fl_unfold i u)
   have S := gen_Maker_Next_w a L N G ai 5 _ ay (fl [[e], blk d, b]) (x.fold (P := [[a]])) (j.sub Y) m u
   refine x_call 13 #[] #[] [Vp a 0, Vi 5] _ R R R R S ?_
   rintro ax a2 ⟨rfl, aj, be⟩
   clear S u
   refine inl1 ?_
   have X : MS ay ([[a]] ++ [[e], blk d, b]) := f.pick [some 2, some 0, some 1, some 3] _ R
   have H : ∀ i ∈ fl ([[a]] ++ [[e], blk d, b]), i ∈ fl [[e], blk d, [a], b] := pick_sub [some 2, some 0, some 1, some 3] _ R
   have ab := Stp.call (LS := [[e], blk d, [a], b]) (res := []) (par := [[a]]) (R := [[e], blk d, b]) aj (fun q r => H q (fl_left' (P := [[a]]) q r)) (FR.nil _) (NP.init _ _) (fun i u => H i (fl_right' (P := [[a]]) i u))
   have aa : ∀ i ∈ fl [[e], blk d, [a], b], i ∈ fl ([] ++ ([[a]] ++ [[e], blk d, b])) := pick_sub [some 1, some 2, some 0, some 3] _ R
   have h := ab.res aa
   replace j := j.step h
   replace n := n.step h aj (MS.outs (P := [[a]]) X 1 R)
   replace s := aj.box s ((MS.outs (P := [[a]]) X 0 R) _ mem1)
   replace f := f.ev aj
   replace o := o.then aj (fun q r => .inl (by simpa using r))
   replace m := be
   clear x Y Z X H ab aa h
   refine x_u 1 [(6, Vi aN.1)] (x_ek (c_block ?_))
   have h := Stp.push (ls := [[e], blk d, [a], b]) (l := blk none) (Ev.refl [] a2) (fun _ g => by cases g) (fun _ g => by cases g)
   replace m := (Ev.refl [] _).box m nn
   replace j := j.step h
   replace n := n.step h (Ev.refl [] _) nn2
   replace s := (Ev.refl [] _).box s nn
   replace f := f.push (l := blk none) (Ev.refl [] _) (fun _ g => by cases g)
   replace p := p.push (l := blk none) (fun _ g => by cases g)
   have aF := OwnS.nil eStr 9 a2 (fl [blk none, [e], blk d, [a], b])
   have x := f.pick [some 2, some 0, some 1, some 3, some 4] [blk d, blk none, [e], [a], b] R
   have D := pick_sub (ls := [blk none, [e], blk d, [a], b]) [some 2, some 0, some 1, some 3, some 4] [blk d, blk none, [e], [a], b] R
   replace j := j.sub D
   replace n := n.sub D
   replace aF := aF.sub D
   replace f := x
   replace p := p.pick [some 2, some 0, some 1] [blk d, blk none, [e]] R
   clear x D
   obtain ⟨a6, az, a8⟩ := bind_some g
   obtain ⟨aq, az⟩ := loop_some az
   refine c_loop (loop_rule hmx (σ := Nat × Int × (List (List UInt8)) × Int × Option Addr × Nat) (fun I => match I with | (_, ad, t, F, k, E) => [(0, Vp a 0), (3, Vl d v A), (4, Vi C), (5, Vp e 0), (6, Vi F)]) (fun I w => match I with | (aI, ad, t, F, k, E) => loopN (law17_orders_L13 G) aI (ad, t, F) = some a6 ∧ Ev [a] y w ∧ MS w [blk d, blk k, [e], [a], b] ∧ FR y.heap.size [blk d, blk k, [e]] ∧ SlR (eInt .i64) w (fl [blk d, blk k, [e], [a], b]) L N G ∧ w.heap[a]? = some (.cells #[Vl L G N, Vi ad] 90 (0, 0)) ∧ OwnS (eSl eStr) 31 w (fl [blk d, blk k, [e], [a], b]) d A v ∧ OwnS eStr 9 w (fl [blk d, blk k, [e], [a], b]) k E t ∧ w.heap[e]? = some (.cells #[Vl k t E] 31 (0, 0))) (fun I => I.1) (aq, aN.2, ([] : List (List UInt8)), aN.1, none, 0) ⟨R, R, R, R, R, trivial⟩ ⟨az, o, f, p, j, m, n, aF, s⟩ ?_)
   rintro ⟨aq, ad, t, F, k, E⟩ ag O ⟨ao, o, f, p, j, m, n, B, s⟩
   rcases aq with _ | aq
   · exact (loopN_zero ao).elim
   obtain ⟨bu, g, ao⟩ := bind_some ao
   refine c_seq (c_sp (x_u 2 [(15, Vi F), (16, .bool (decide (F > 0)))] (x_ek (c_nm [(0, Vp a 0), (3, Vl d v A), (4, Vi C), (5, Vp e 0), (6, Vi F), (16, .bool (decide (F > 0)))] (fun ag => ?_)))))
   refine c_if (decide (F > 0)) R g (fun g => ?_) (fun g => ?_)
   · refine c_skip (k_then (c_seq (c_block (c_drawn [a] [(0, false), (1, false), (2, true), (3, false), (4, false), (5, true), (6, true), (7, true)] _ (by kernel_rfl) R ?_))))
     have h := Stp.ext (ls := [blk d, blk k, [e], [a], b]) (Ev.drew O)
     replace m := (Ev.drew O).box m nn
     replace j := j.step h
     replace n := n.step h (Ev.drew O) nn2
     replace s := (Ev.drew O).box s nn
     replace B := B.step h (Ev.drew O) nn2
     replace f := f.ev (Ev.drew O)
     replace o := o.ext (Ev.drew O)
     refine x_fieldAddr (xv := Vp e 0) (Vp e 0) R R R (reads_field tfld31_0 _ _) (x_load (xv := Vp e 0) (Vl k t E) R R R (reads_box tcell29 s ((f.apart 2 3 R R R) _ mem1) 0 _ R) (x_u 1 [(21, Vp a 0)] ?_))
     obtain ⟨J, u, g⟩ := bind_some g
     have x : MS (O).drew ([[a]] ++ [blk d, blk k, [e], b]) := f.pick [some 3, some 0, some 1, some 2, some 4] _ R
     have Z : ∀ i ∈ fl ([[a]] ++ [blk d, blk k, [e], b]), i ∈ fl [blk d, blk k, [e], [a], b] := pick_sub [some 3, some 0, some 1, some 2, some 4] _ R
     have Y : ∀ i ∈ fl ([[a]] ++ [(fl [blk d, blk k, [e], b])]), i ∈ fl [blk d, blk k, [e], [a], b] := fun i u => Z i (fl_unfold i u)
     have S := gen_Maker_Name_w a L N G ad _ (O).drew (fl [blk d, blk k, [e], b]) (x.fold (P := [[a]])) (j.sub Y) m u
     refine x_call 41 #[] #[] [Vp a 0] _ R R R R S ?_
     rintro ax bw ⟨rfl, ac, bf⟩
     clear S u
     refine ⟨.inr ac, ?_⟩
     have X : MS (O).drew ([[a]] ++ [blk d, blk k, [e], b]) := f.pick [some 3, some 0, some 1, some 2, some 4] _ R
     have H : ∀ i ∈ fl ([[a]] ++ [blk d, blk k, [e], b]), i ∈ fl [blk d, blk k, [e], [a], b] := pick_sub [some 3, some 0, some 1, some 2, some 4] _ R
     have ab := Stp.call (LS := [blk d, blk k, [e], [a], b]) (res := []) (par := [[a]]) (R := [blk d, blk k, [e], b]) ac (fun q r => H q (fl_left' (P := [[a]]) q r)) (FR.nil _) (NP.init _ _) (fun i u => H i (fl_right' (P := [[a]]) i u))
     have aa : ∀ i ∈ fl [blk d, blk k, [e], [a], b], i ∈ fl ([] ++ ([[a]] ++ [blk d, blk k, [e], b])) := pick_sub [some 1, some 2, some 3, some 0, some 4] _ R
     have h := ab.res aa
     replace j := j.step h
     replace n := n.step h ac (MS.outs (P := [[a]]) X 0 R)
     replace s := ac.box s ((MS.outs (P := [[a]]) X 2 R) _ mem1)
     replace B := B.step h ac (MS.outs (P := [[a]]) X 1 R)
     replace f := f.ev ac
     replace o := o.then ac (fun q r => .inl (by simpa using r))
     replace m := bf
     clear x Y Z X H ab aa h
     refine x_buildSlice (vs := [(0, Vs J.1)]) #[Vs J.1] 9 R R R (by kernel_rfl) (fun aQ a3 bh aY U br => ?_)
     refine ⟨.inr (U.nil), ?_⟩
     have an := f
     have h := Stp.ext (ls := [blk d, blk k, [e], [a], b]) U
     replace m := U.box m nn
     replace j := j.step h
     replace n := n.step h U nn2
     replace s := U.box s nn
     replace B := B.step h U nn2
     replace f := f.ev U
     replace o := o.ext U
     have bm : SlR eStr a3 (fl [blk d, blk k, [e], [a], b]) (Ad aQ 0) 1 ([J.1] : List (List UInt8)) := ro_of_box an bh aY R R (cells_at (cs := [Vs J.1]) (CellsOf.cons (c := [Vs J.1]) R CellsOf.nil))
     clear aY an
     have aC := guard_l g
     replace g := guard_r g
     obtain ⟨Q, au, aK, bj, ae, aD, bp, a0⟩ := own_appendN tel29 29 B (mem_flat 1 R) bm aC
     refine x_builtin (vs := [Vl k t E, .slice (Ad aQ 0) (([J.1] : List (List UInt8))).length 1]) _ aK R R R R (run_value _ _ _ _ bj) (inl1 ?_)
     have h : Stp (fl [blk d, blk k, [e], [a], b]) a3 (fl [blk d, blk Q, [e], [a], b]) aK := Stp.upd 1 ae R (fun q r => (aD q r).1)
     replace m := ae.box m (f.apart 3 1 R R R _ mem1)
     replace j := j.step h
     replace n := n.step h ae (f.apart 0 1 R R R)
     replace s := ae.box s (f.apart 2 1 R R R _ mem1)
     replace f : MS aK [blk d, blk Q, [e], [a], b] := f.upd 1 ae R aD
     have am : FR y.heap.size [blk d, blk Q, [e]] := p.upd 1 R o.size (fun q r => (aD q r).1)
     replace o := o.then ae (fun q r => .inr (p.at 1 R q r))
     replace p := am
     clear am
     replace B := a0 (fl [blk d, blk Q, [e], [a], b]) h.new
     clear a0
     refine x_fieldAddr (xv := Vp e 0) (Vp e 0) R R R (reads_field tfld31_0 _ _) ?_
     obtain ⟨bo, bk, ba, af⟩ := store_box 0 (.slice Q ((t ++ ([J.1] : List (List UInt8)))).length au) #[.slice Q ((t ++ ([J.1] : List (List UInt8)))).length au] tcell29 s R R R
     refine x_store bo (xv := Vp e 0) (yv := .slice Q ((t ++ ([J.1] : List (List UInt8)))).length au) R R R R bk (inl1 ?_)
     have h := Stp.ev' (ls := [blk d, blk Q, [e], [a], b]) af (mem_flat 2 R)
     replace m := af.box m (f.apart 3 2 R R R _ mem1)
     replace j := j.step h
     replace n := n.step h af (f.apart 0 2 R R R)
     replace B := B.step h af (f.apart 1 2 R R R)
     replace f := f.ev af
     replace o := o.then af (fun q r => .inr (p.at 2 R q r))
     replace s := ba
     refine x_end R (k_block (k_then (c_plain (x_u 3 [(17, Vi F), (18, Vi (i64.wrap (F - 1))), (6, Vi (i64.wrap (F - 1)))] (x_end R ?_)))))
     obtain rfl := some_inj g
     exact k_then ⟨(aq, J.2, (t ++ ([J.1] : List (List UInt8))), i64.wrap (F - 1), Q, au), ⟨R, R, R, R, R, trivial⟩, ⟨ao, o, f, p, j, m, n, B, s⟩, Nat.lt_succ_self _⟩
   refine c_exit (k_then_exit ?_)
   obtain rfl := some_inj g
   have aH := some_inj ao
   subst aH
   replace g := a8
   refine k_then_exit (k_block_in (k_then (c_nm [(0, Vp a 0), (3, Vl d v A), (4, Vi C), (5, Vp e 0)] (fun ag => ?_))))
   refine c_plain (x_u 1 [(26, Vl d v A)] (x_load (xv := Vp e 0) (.agg #[Vl k t E]) R R R (reads_boxagg 0 [Vl k t E] tagg31 s nn R) ?_))
   have x := f.pick [some 0, some 2, some 3, some 4] [blk d, [e], [a], b] R
   have D := pick_sub (ls := [blk d, blk k, [e], [a], b]) [some 0, some 2, some 3, some 4] [blk d, [e], [a], b] R
   replace j := j.sub D
   replace n := n.sub D
   replace B := B.ro D (pick_out f 1 R [some 0, some 2, some 3, some 4] [blk d, [e], [a], b] R R)
   replace f := x
   replace p := p.pick [some 0, some 2] [blk d, [e]] R
   clear x D
   refine x_buildSlice (vs := [(0, .agg #[Vl k t E])]) #[Vl k t E] 31 R R R (by kernel_rfl) (fun aS a4 bi aZ ak bs => ?_)
   refine inl1 ?_
   have an := f
   have h := Stp.ext (ls := [blk d, [e], [a], b]) ak
   replace m := ak.box m nn
   replace j := j.step h
   replace n := n.step h ak nn2
   replace B := B.step h
   replace f := f.ev ak
   replace o := o.ext ak
   have bn : SlR (eSl eStr) a4 (fl [blk d, [e], [a], b]) (Ad aS 0) 1 ([(t)] : List (List (List UInt8))) := ro_of_box an bi aZ R R (cells_at (cs := [Vl k t E]) (CellsOf.cons (c := [Vl k t E]) ⟨k, E, R, B⟩ CellsOf.nil))
   clear aZ an
   have aC := guard_l g
   replace g := guard_r g
   obtain ⟨K, aX, aL, bl, av, aE, bq, a1⟩ := own_appendN tel23 23 n (mem_flat 0 R) bn aC
   refine x_builtin (vs := [Vl d v A, .slice (Ad aS 0) (([(t)] : List (List (List UInt8)))).length 1]) _ aL R R R R (run_value _ _ _ _ bl) (inl1 ?_)
   have h : Stp (fl [blk d, [e], [a], b]) a4 (fl [blk K, [e], [a], b]) aL := Stp.upd 0 av R (fun q r => (aE q r).1)
   replace m := av.box m (f.apart 2 0 R R R _ mem1)
   replace j := j.step h
   replace f : MS aL [blk K, [e], [a], b] := f.upd 0 av R aE
   have am : FR y.heap.size [blk K, [e]] := p.upd 0 R o.size (fun q r => (aE q r).1)
   replace o := o.then av (fun q r => .inr (p.at 0 R q r))
   replace p := am
   clear am
   replace n := a1 (fl [blk K, [e], [a], b]) h.new
   clear a1
   refine x_u 1 [(3, .slice K ((v ++ ([(t)] : List (List (List UInt8))))).length aX)] (x_end R (k_block (k_then (c_plain (x_u 3 [(11, Vi C), (12, Vi (i64.wrap (C - 1))), (4, Vi (i64.wrap (C - 1)))] (x_end R ?_))))))
   obtain rfl := some_inj g
   have x := f.pick [some 0, some 2, some 3] [blk K, [a], b] R
   have D := pick_sub (ls := [blk K, [e], [a], b]) [some 0, some 2, some 3] [blk K, [a], b] R
   replace j := j.sub D
   replace n := n.sub D
   replace f := x
   replace p := p.pick [some 0] [blk K] R
   clear x D
   exact k_then ⟨(ar, ad, (v ++ ([(t)] : List (List (List UInt8)))), i64.wrap (C - 1), K, aX), ⟨R, R, R, trivial⟩, ⟨ap, o, f, p, j, m, n⟩, Nat.lt_succ_self _⟩
 refine c_exit (k_then_exit ?_)
 obtain rfl := some_inj g
 have aH := some_inj ap
 subst aH
 replace g := a9
 refine k_then_exit (k_block_in (k_then (c_nm [(3, Vl d v A)] (fun ag => ?_))))
 refine c_sp (x_u 2 [(30, Vl d v A), (2, Vl d v A)] (x_ek (c_ret (r_ret (r_vals [Vl d v A] ⟨R, trivial⟩ ?_)))))
 obtain rfl := some_inj g
 have bc := f.pick [some 0, some 1, some 2] [blk d, [a], b] R
 have D := pick_sub (ls := [blk d, [a], b]) [some 0, some 1, some 2] [blk d, [a], b] R
 have bb := p.pick [some 0] [blk d] R
 exact ⟨d, A, R, o, m, bc, bb, n.sub D⟩
end Go.Proofs.YtlejnkhaphlooaaGreat
