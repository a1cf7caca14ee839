
/- Walks, printed by program: each function returns what the partial function of the same name returns. Conditions: those of each theorem. -/
import Derived.Test.YtlejnkhaphlooaaGreatGT
import Derived.Test.YtlejnkhaphlooaaGreatGcode
import Derived.Test.YtlejnkhaphlooaaGreatGjob
import Derived.Test.YtlejnkhaphlooaaGreatGleastcode
import Derived.Test.YtlejnkhaphlooaaGreatGrollin
set_option linter.unusedVariables false
set_option linter.unusedSimpArgs false
set_option maxRecDepth 4000
namespace Go.Proofs.YtlejnkhaphlooaaGreat
open Go Go.V Go.Proofs Go.IntKind
def certificate_Make (c : List (Int × Int × Int × Int)) (d : Int) : Option (((Int × (List Int)) × (List Int)) × Int) :=
((leastcode_Least c d).bind fun a =>
(if (a.2 != 0) = true then
some (((0, []), []), a.2)
else
((leastcode_Witness c d).bind fun b =>
(if (b.2 != 0) = true then
some (((0, []), []), b.2)
else
some (((a.1.1, a.1.2), b.1), 0)))))
theorem certificate_Make_w (o : Option Addr) (r : Nat) (n : List (Int × Int × Int × Int)) (u : Int) (C : ((Int × (List Int)) × (List Int)) × Int) (y : World) (e : List Nat) (c : MS y [e]) (v : SlR (eIt4) y (fl [e]) o r n) (s : certificate_Make n u = some C) : CallVC Tryz.prog 21 [.agg #[Vl o n r, Vi u]] y fun ae X => ∃ (D : Option Addr), ∃ (af : Nat), ∃ (E : Option Addr), ∃ (ag : Nat), ae = .tuple #[.agg #[Vi C.1.1.1, Vl D C.1.1.2 af, Vl E C.1.2 ag], Vi C.2] ∧ Ev [] y X ∧ MS X [blk D, blk E, e] ∧ FR y.heap.size [blk D, blk E] ∧ OwnS (eInt .i64) 3 X (fl [blk D, blk E, e]) D af C.1.1.2 ∧ OwnS (eInt .i64) 3 X (fl [blk D, blk E, e]) E ag C.1.2 := by
 refine calls_vc hmx Tryz.func21 (by kernel_rfl) R (rs := [.cell 2 54, .tmp 3]) R (by kernel_rfl) (args := [.agg #[Vl o n r, Vi u]]) R ?_
 have d : Ev [] y y := Ev.refl _ _
 have l : FR y.heap.size [] := FR.nil _
 refine c_sp (x_box (xv := .agg #[Vl o n r, Vi u]) R R R (fun i aC ab t Y aE => ?_))
 replace t : aC.heap[i]? = some (.cells #[Vl o n r, Vi u] 50 (0, 0)) := t
 refine inl1 ?_
 have k := Stp.box (ls := [e]) Y ab
 replace v := v.step k
 replace c := c.box Y ab t
 replace l := l.box d.size ab
 replace d := d.ext Y
 refine x_alloc (z := .agg #[Vi 0, .slice none 0 0, .slice none 0 0]) R R (by kernel_rfl) (fun g al ac j U aF => ?_)
 replace j : al.heap[g]? = some (.cells #[Vi 0, .slice none 0 0, .slice none 0 0] 54 (0, 0)) := j
 refine inl1 ?_
 have k := Stp.box (ls := [[i], e]) U ac
 replace v := v.step k
 replace t := U.box t nn
 replace c := c.box U ac j
 replace l := l.box d.size ac
 replace d := d.ext U
 refine x_u 1 [(3, Vi 0)] (x_ek (c_sp (x_load (xv := Vp i 0) (.agg #[Vl o n r, Vi u]) R R R (reads_boxagg 0 [Vl o n r, Vi u] tagg50 t nn R) ?_)))
 obtain ⟨a, S, s⟩ := bind_some s
 have I := leastcode_Least_w o r n u _ al (fl [[g], [i], e]) (MS.fold (P := []) c) (v.sub fl1) S
 refine x_call 51 #[] #[] [.agg #[Vl o n r, Vi u]] _ R R R R I ?_
 rintro ae aI ⟨b, m, rfl, K, au, aa, w⟩
 clear I S
 refine inl1 ?_
 have k := Stp.call0 [[g], [i], e] [blk b] [blk b, [g], [i], e] K aa R
 replace v := v.step k
 replace t := K.box t nn
 replace j := K.box j nn
 replace c := MS.call0 [blk b] [blk b, [g], [i], e] c K au aa R
 have O := FR.call0 [blk b, [g], [i]] d.size aa l R
 replace d := d.ext K
 replace l := O
 clear O
 replace w := OwnS.plain (M' := fl [blk b, [g], [i], e]) (plain_int _) w
 clear k
 refine x_u 3 [(7, .tuple #[.agg #[Vi a.1.1, Vl b a.1.2 m], Vi a.2]), (10, .agg #[Vi a.1.1, Vl b a.1.2 m]), (11, Vi a.2)] (x_alloc (z := .agg #[Vi 0, .slice none 0 0]) R R (by kernel_rfl) (fun p aD ad x H aG => ?_))
 replace x : aD.heap[p]? = some (.cells #[Vi 0, .slice none 0 0] 52 (0, 0)) := x
 refine inl1 ?_
 have k := Stp.box (ls := [blk b, [g], [i], e]) H ad
 replace v := v.step k
 replace t := H.box t nn
 replace j := H.box j nn
 replace w := w.step k H nn2
 replace c := c.box H ad x
 replace l := l.box d.size ad
 replace d := d.ext H
 obtain ⟨ak, av, an, F⟩ := store_boxagg 0 [Vi a.1.1, Vl b a.1.2 m] #[Vi a.1.1, Vl b a.1.2 m] tagg52 x R R R
 refine x_store ak (xv := Vp p 0) (yv := .agg #[Vi a.1.1, Vl b a.1.2 m]) R R R R av (inl1 ?_)
 have k := Stp.ev' (ls := [[p], blk b, [g], [i], e]) F (mem_flat 0 R)
 replace v := v.step k
 replace t := F.box t (c.apart 3 0 R R R _ mem1)
 replace j := F.box j (c.apart 2 0 R R R _ mem1)
 replace w := w.step k F (c.apart 1 0 R R R)
 replace c := c.ev F
 replace d := d.then F (fun A B => .inr (l.at 0 R A B))
 replace x := an
 refine x_u 1 [(5, Vi a.2)] (x_ek (c_seq (c_sp (x_u 2 [(12, Vi a.2), (13, .bool (a.2 != 0))] (x_ek (c_if (a.2 != 0) R s (fun s => ?_) (fun s => ?_)))))))
 · refine c_sp (x_build (vs := []) (.agg #[Vi 0, .slice none 0 0, .slice none 0 0]) R R R (fun _ _ => by kernel_rfl) ?_)
   refine x_u 1 [(15, Vi a.2)] ?_
   obtain ⟨az, aw, ao, ah⟩ := store_boxagg 0 [Vi 0, .slice none 0 0, .slice none 0 0] #[Vi 0, .slice none 0 0, .slice none 0 0] tagg54 j R R R
   refine x_store az (xv := Vp g 0) (yv := .agg #[Vi 0, .slice none 0 0, .slice none 0 0]) R R R R aw (inl1 ?_)
   replace c := c.ev ah
   replace d := d.then ah (fun A B => .inr (l.at 2 R A B))
   replace j := ao
   refine x_u 1 [(3, Vi a.2)] (x_ek (c_nm [(2, Vp g 0), (3, Vi a.2)] (fun am => ?_)))
   refine c_ret (k_then_ret (r_ret (r_vals [.agg #[Vi 0, .slice none 0 0, .slice none 0 0], Vi a.2] ⟨⟨_, R, loadVar_of_reads (reads_boxagg (Mo := []) 0 [Vi 0, .slice none 0 0, .slice none 0 0] tagg54 j nn R)⟩, R, trivial⟩ ?_)))
   obtain rfl := some_inj s
   have Q := c.pick [none, none, some 4] [blk none, blk none, e] R
   have N := l.pick [none, none] [blk none, blk none] R
   exact ⟨none, 0, none, 0, R, d, Q, N, OwnS.nil _ _ _ _, OwnS.nil _ _ _ _⟩
 refine c_skip (k_then (c_sp (x_load (xv := Vp i 0) (.agg #[Vl o n r, Vi u]) R R R (reads_boxagg 0 [Vl o n r, Vi u] tagg50 t nn R) ?_)))
 obtain ⟨h, S, s⟩ := bind_some s
 have I := leastcode_Witness_w o r n u _ ak (fl [[p], blk b, [g], [i], e]) (MS.fold (P := []) c) (v.sub fl1) S
 refine x_call 52 #[] #[] [.agg #[Vl o n r, Vi u]] _ R R R R I ?_
 rintro ae aH ⟨f, q, rfl, G, ar, Z, L⟩
 clear I S
 refine inl1 ?_
 have k := Stp.call0 [[p], blk b, [g], [i], e] [blk f] [blk f, [p], blk b, [g], [i], e] G Z R
 replace j := G.box j nn
 replace w := w.step k G nn2
 replace x := G.box x nn
 replace c := MS.call0 [blk f] [blk f, [p], blk b, [g], [i], e] c G ar Z R
 have O := FR.call0 [blk f, [p], blk b, [g], [i]] d.size Z l R
 replace d := d.ext G
 replace l := O
 clear O
 replace L := OwnS.plain (M' := fl [blk f, [p], blk b, [g], [i], e]) (plain_int _) L
 clear k
 refine x_u 5 [(16, .tuple #[Vl f h.1 q, Vi h.2]), (19, Vl f h.1 q), (20, Vi h.2), (6, Vl f h.1 q), (5, Vi h.2)] (x_ek (c_nm [(2, Vp g 0), (4, Vp p 0), (5, Vi h.2), (6, Vl f h.1 q)] (fun am => ?_)))
 refine c_seq (c_sp (x_u 2 [(21, Vi h.2), (22, .bool (h.2 != 0))] (x_ek (c_if (h.2 != 0) R s (fun s => ?_) (fun s => ?_)))))
 · refine c_sp (x_build (vs := []) (.agg #[Vi 0, .slice none 0 0, .slice none 0 0]) R R R (fun _ _ => by kernel_rfl) ?_)
   refine x_u 1 [(24, Vi h.2)] ?_
   obtain ⟨aA, ax, ap, ai⟩ := store_boxagg 0 [Vi 0, .slice none 0 0, .slice none 0 0] #[Vi 0, .slice none 0 0, .slice none 0 0] tagg54 j R R R
   refine x_store aA (xv := Vp g 0) (yv := .agg #[Vi 0, .slice none 0 0, .slice none 0 0]) R R R R ax (inl1 ?_)
   replace c := c.ev ai
   replace d := d.then ai (fun A B => .inr (l.at 3 R A B))
   replace j := ap
   refine x_u 1 [(3, Vi h.2)] (x_ek (c_ret (k_then_ret (r_ret (r_vals [.agg #[Vi 0, .slice none 0 0, .slice none 0 0], Vi h.2] ⟨⟨_, R, loadVar_of_reads (reads_boxagg (Mo := []) 0 [Vi 0, .slice none 0 0, .slice none 0 0] tagg54 j nn R)⟩, R, trivial⟩ ?_)))))
   obtain rfl := some_inj s
   have Q := c.pick [none, none, some 5] [blk none, blk none, e] R
   have N := l.pick [none, none] [blk none, blk none] R
   exact ⟨none, 0, none, 0, R, d, Q, N, OwnS.nil _ _ _ _, OwnS.nil _ _ _ _⟩
 refine c_skip (k_then (c_sp (x_load (xv := Vp p 0) (.agg #[Vi a.1.1, Vl b a.1.2 m]) R R R (reads_boxagg 0 [Vi a.1.1, Vl b a.1.2 m] tagg52 x nn R) (x_u 1 [(26, Vl f h.1 q)] (x_build (vs := [(0, .agg #[Vi a.1.1, Vl b a.1.2 m]), (1, Vl f h.1 q)]) (.agg #[Vi a.1.1, Vl b a.1.2 m, Vl f h.1 q]) R R R (fun _ _ => by kernel_rfl) ?_)))))
 obtain ⟨aB, ay, aq, J⟩ := store_boxagg 0 [Vi a.1.1, Vl b a.1.2 m, Vl f h.1 q] #[Vi a.1.1, Vl b a.1.2 m, Vl f h.1 q] tagg54 j R R R
 refine x_store aB (xv := Vp g 0) (yv := .agg #[Vi a.1.1, Vl b a.1.2 m, Vl f h.1 q]) R R R R ay (inl1 ?_)
 have k := Stp.ev' (ls := [blk f, [p], blk b, [g], [i], e]) J (mem_flat 3 R)
 replace w := w.step k J (c.apart 2 3 R R R)
 replace L := L.step k J (c.apart 0 3 R R R)
 replace c := c.ev J
 replace d := d.then J (fun A B => .inr (l.at 3 R A B))
 replace j := aq
 refine x_u 1 [(3, Vi 0)] (x_ek (c_ret (r_ret (r_vals [.agg #[Vi a.1.1, Vl b a.1.2 m, Vl f h.1 q], Vi 0] ⟨⟨_, R, loadVar_of_reads (reads_boxagg (Mo := []) 0 [Vi a.1.1, Vl b a.1.2 m, Vl f h.1 q] tagg54 j nn R)⟩, R, trivial⟩ ?_))))
 obtain rfl := some_inj s
 have Q := c.pick [some 2, some 0, some 5] [blk b, blk f, e] R
 have aj := pick_sub (ls := [blk f, [p], blk b, [g], [i], e]) [some 2, some 0, some 5] [blk b, blk f, e] R
 have N := l.pick [some 2, some 0] [blk b, blk f] R
 exact ⟨b, m, f, q, R, d, Q, N, w.sub aj, L.sub aj⟩
def certificate_Check_L14 (c : List (Int × Int × Int × Int)) (f : Int) (d : List Int) (e : Int) (g : Int) : Option (Step Int (Int ⊕ Unit)) :=
match g with
| a =>
(if (decide (a < ((c).length : Int))) = true then
((job_Relation c f e a).bind fun b =>
(if (b.2 != 0) = true then
some (.done (.inl b.2))
else
(if (decide (b.1 > 0)) = true then
((idx d e).bind fun h =>
((idx d a).bind fun i =>
(if (decide ((i64.wrap ((i64.wrap (h + b.1)) - 1)) > i)) = true then
some (.done (.inl 12))
else
some (.next (i64.wrap (a + 1))))))
else
some (.next (i64.wrap (a + 1))))))
else
some (.done (.inr ())))
def certificate_Check_L12 (b : List (Int × Int × Int × Int)) (d : Int) (e : List Int) (f : Int) : Option (Step Int (Int ⊕ Unit)) :=
match f with
| a =>
(if (decide (a < ((b).length : Int))) = true then
((loop (certificate_Check_L14 b d e a) 0).bind fun c => match c with
| (.inl g) => some (.done (.inl g))
| (.inr _) => some (.next (i64.wrap (a + 1))))
else
some (.done (.inr ())))
def certificate_Check (a : List (Int × Int × Int × Int)) (b : Int) (d : Int) (e : List Int) (i : List Int) : Option Int :=
((rollin_Valid a b d e).bind fun g =>
(if (g != 0) = true then
some g
else
((loop (certificate_Check_L12 a b e) 0).bind fun h => match h with
| (.inl j) => some j
| (.inr _) => ((leastcode_Bound a b i).bind fun c =>
(if (c.2 != 0) = true then
some c.2
else
((code_Steps c.1).bind fun f =>
(if (f.2 != 0) = true then
some 17
else
(if (f.1 != d) = true then
some 17
else
some 0))))))))
theorem certificate_Check_w (h : Option Addr) (i : Nat) (c : List (Int × Int × Int × Int)) (q : Int) (z : Int) (u : Option Addr) (v : Nat) (s : List Int) (D : Option Addr) (E : Nat) (B : List Int) (ar : Int) (C : World) (l : List Nat) (n : MS C [l]) (o : SlR (eIt4) C (fl [l]) h i c) (p : SlR (eInt .i64) C (fl [l]) u v s) (r : SlR (eInt .i64) C (fl [l]) D E B) (a : certificate_Check c q z s B = some ar) : CallVC Tryz.prog 58 [.agg #[Vl h c i, Vi q], .agg #[Vi z, Vl u s v, Vl D B E]] C fun Y w => Y = Vi ar ∧ Ev [] C w := by
 refine calls_vc hmx Tryz.func58 (by kernel_rfl) R (rs := [.tmp 4]) R (by kernel_rfl) (args := [.agg #[Vl h c i, Vi q], .agg #[Vi z, Vl u s v, Vl D B E]]) R ?_
 have e : Ev [] C C := Ev.refl _ _
 have A : FR C.heap.size [] := FR.nil _
 refine c_sp (x_box (xv := .agg #[Vl h c i, Vi q]) R R R (fun d aE aj m ai aJ => ?_))
 replace m : aE.heap[d]? = some (.cells #[Vl h c i, Vi q] 50 (0, 0)) := m
 refine inl1 ?_
 have t := Stp.box (ls := [l]) ai aj
 replace o := o.step t
 replace p := p.step t
 replace r := r.step t
 replace n := n.box ai aj m
 replace A := A.box e.size aj
 replace e := e.ext ai
 refine x_box (xv := .agg #[Vi z, Vl u s v, Vl D B E]) R R R (fun b au ak j ab aK => ?_)
 replace j : au.heap[b]? = some (.cells #[Vi z, Vl u s v, Vl D B E] 54 (0, 0)) := j
 refine inl1 ?_
 have t := Stp.box (ls := [[d], l]) ab ak
 replace o := o.step t
 replace p := p.step t
 replace r := r.step t
 replace m := ab.box m nn
 replace n := n.box ab ak j
 replace A := A.box e.size ak
 replace e := e.ext ab
 refine x_u 1 [(4, Vi 0)] (x_ek (c_seq (c_sp (x_load (xv := Vp d 0) (.agg #[Vl h c i, Vi q]) R R R (reads_boxagg 0 [Vl h c i, Vi q] tagg50 m nn R) (x_fieldAddr (xv := Vp b 0) (Vp b 0) R R R (reads_field tfld54_0 _ _) (x_load (xv := Vp b 0) (.agg #[Vi z, Vl u s v]) R R R (reads_boxagg 0 [Vi z, Vl u s v] tagg52 j nn R) ?_))))))
 obtain ⟨O, H, a⟩ := bind_some a
 have G := rollin_Valid_w h i c q z u v s _ au (fl [[b], [d], l]) (MS.fold (P := []) n) (o.sub fl1) (p.sub fl1) H
 refine x_call 53 #[] #[] [.agg #[Vl h c i, Vi q], .agg #[Vi z, Vl u s v]] _ R R R R G ?_
 rintro Y aO ⟨rfl, S⟩
 clear G H
 refine inl1 ?_
 have t := Stp.ext (ls := [[b], [d], l]) S
 replace o := o.step t
 replace p := p.step t
 replace r := r.step t
 replace m := S.box m nn
 replace j := S.box j nn
 replace n := n.ev S
 replace e := e.ext S
 refine x_u 1 [(5, Vi O)] (x_ek (c_sp (x_u 2 [(18, Vi O), (19, .bool (O != 0))] (x_ek (c_if (O != 0) R a (fun a => ?_) (fun a => ?_))))))
 · refine c_sp (x_u 2 [(20, Vi O), (4, Vi O)] (x_ek (c_ret (k_then_ret (r_ret (r_vals [Vi O] ⟨R, trivial⟩ ?_))))))
   obtain rfl := some_inj a
   exact ⟨R, e⟩
 refine c_skip (k_then (c_seq (c_sp (x_fieldAddr (xv := Vp d 0) (Vp d 0) R R R (reads_field tfld50_0 _ _) (x_load (xv := Vp d 0) (Vl h c i) R R R (reads_box tcell36 m nn 0 _ R) (x_len (vs := [Vl h c i]) (Vi ((c).length : Int)) R R R (reads_len tsl36 _ _ _ _ _) (x_u 1 [(24, Vi 0)] (x_ek (c_nm [(2, Vp d 0), (3, Vp b 0), (23, Vi ((c).length : Int)), (24, Vi 0)] (fun F => ?_))))))))))
 refine c_block ?_
 have aq := n.pick [some 1, some 0, some 2] [[d], [b], l] R
 have ac := pick_sub (ls := [[b], [d], l]) [some 1, some 0, some 2] [[d], [b], l] R
 replace o := o.sub ac
 replace p := p.sub ac
 replace r := r.sub ac
 replace n := aq
 replace A := A.pick [some 1, some 0] [[d], [b]] R
 clear aq ac
 obtain ⟨av, ag, ad⟩ := bind_some a
 obtain ⟨X, ag⟩ := loop_some ag
 refine c_loop (loop_rule hmx (σ := Nat × Int) (fun J => match J with | (_, f) => [(2, Vp d 0), (3, Vp b 0), (23, Vi ((c).length : Int)), (24, Vi f)]) (fun J w => match J with | (al, f) => loopN (certificate_Check_L12 c q s) al f = some av ∧ Ev [] C w ∧ MS w [[d], [b], l] ∧ FR C.heap.size [[d], [b]] ∧ SlR (eIt4) w (fl [[d], [b], l]) h i c ∧ w.heap[d]? = some (.cells #[Vl h c i, Vi q] 50 (0, 0)) ∧ SlR (eInt .i64) w (fl [[d], [b], l]) u v s ∧ SlR (eInt .i64) w (fl [[d], [b], l]) D E B ∧ w.heap[b]? = some (.cells #[Vi z, Vl u s v, Vl D B E] 54 (0, 0))) (fun J => J.1) (X, 0) ⟨R, R, R, R, trivial⟩ ⟨ag, e, n, A, o, m, p, r, j⟩ ?_)
 rintro ⟨X, f⟩ F aF ⟨L, e, n, A, o, m, p, r, j⟩
 rcases X with _ | X
 · exact (loopN_zero L).elim
 obtain ⟨aL, a, L⟩ := bind_some L
 refine c_sp (x_u 1 [(25, .bool (decide (f < ((c).length : Int))))] (x_ek (c_nm [(2, Vp d 0), (3, Vp b 0), (23, Vi ((c).length : Int)), (24, Vi f), (25, .bool (decide (f < ((c).length : Int))))] (fun F => ?_))))
 refine c_seq (c_if (decide (f < ((c).length : Int))) R a (fun a => ?_) (fun a => ?_))
 · refine c_skip (k_then (c_seq (c_block (c_sp (x_u 2 [(26, Vi f), (6, Vi f)] (x_ek (c_sp (x_fieldAddr (xv := Vp d 0) (Vp d 0) R R R (reads_field tfld50_0 _ _) (x_load (xv := Vp d 0) (Vl h c i) R R R (reads_box tcell36 m nn 0 _ R) ?_)))))))))
   refine x_len (vs := [Vl h c i]) (Vi ((c).length : Int)) R R R (reads_len tsl36 _ _ _ _ _) (x_u 1 [(30, Vi 0)] (x_ek (c_block ?_)))
   obtain ⟨aw, ah, ae⟩ := bind_some a
   obtain ⟨Q, ah⟩ := loop_some ah
   refine c_loop (loop_rule hmx (σ := Nat × Int) (fun J => match J with | (_, k) => [(2, Vp d 0), (3, Vp b 0), (6, Vi f), (23, Vi ((c).length : Int)), (24, Vi f), (29, Vi ((c).length : Int)), (30, Vi k)]) (fun J w => match J with | (al, k) => loopN (certificate_Check_L14 c q s f) al k = some aw ∧ Ev [] C w ∧ MS w [[d], [b], l] ∧ FR C.heap.size [[d], [b]] ∧ SlR (eIt4) w (fl [[d], [b], l]) h i c ∧ w.heap[d]? = some (.cells #[Vl h c i, Vi q] 50 (0, 0)) ∧ SlR (eInt .i64) w (fl [[d], [b], l]) u v s ∧ SlR (eInt .i64) w (fl [[d], [b], l]) D E B ∧ w.heap[b]? = some (.cells #[Vi z, Vl u s v, Vl D B E] 54 (0, 0))) (fun J => J.1) (Q, 0) ⟨R, R, R, R, R, R, R, trivial⟩ ⟨ah, e, n, A, o, m, p, r, j⟩ ?_)
   rintro ⟨Q, k⟩ F aG ⟨K, e, n, A, o, m, p, r, j⟩
   rcases Q with _ | Q
   · exact (loopN_zero K).elim
   obtain ⟨aN, a, K⟩ := bind_some K
   refine c_sp (x_u 1 [(31, .bool (decide (k < ((c).length : Int))))] (x_ek (c_nm [(2, Vp d 0), (3, Vp b 0), (6, Vi f), (23, Vi ((c).length : Int)), (24, Vi f), (29, Vi ((c).length : Int)), (30, Vi k), (31, .bool (decide (k < ((c).length : Int))))] (fun F => ?_))))
   refine c_seq (c_if (decide (k < ((c).length : Int))) R a (fun a => ?_) (fun a => ?_))
   · refine c_skip (k_then (c_seq (c_block (c_sp (x_u 2 [(32, Vi k), (7, Vi k)] (x_ek (c_sp (x_load (xv := Vp d 0) (.agg #[Vl h c i, Vi q]) R R R (reads_boxagg 0 [Vl h c i, Vi q] tagg50 m nn R) (x_u 2 [(35, Vi f), (36, Vi k)] ?_)))))))))
     obtain ⟨g, H, a⟩ := bind_some a
     have G := job_Relation_w h i c q f k _ aG (fl [[d], [b], l]) (MS.fold (P := []) n) (o.sub fl1) H
     refine x_call 91 #[] #[] [.agg #[Vl h c i, Vi q], Vi f, Vi k] _ R R R R G ?_
     rintro Y Z ⟨rfl, U⟩
     clear G H
     refine inl1 ?_
     have t := Stp.ext (ls := [[d], [b], l]) U
     replace m := U.box m nn
     replace o := o.step t
     replace j := U.box j nn
     replace p := p.step t
     replace r := r.step t
     replace n := n.ev U
     replace e := e.ext U
     refine x_u 5 [(33, .tuple #[Vi g.1, Vi g.2]), (38, Vi g.1), (39, Vi g.2), (8, Vi g.1), (9, Vi g.2)] (x_ek (c_seq (c_sp (x_u 2 [(40, Vi g.2), (41, .bool (g.2 != 0))] (x_ek (c_nm [(2, Vp d 0), (3, Vp b 0), (6, Vi f), (7, Vi k), (8, Vi g.1), (9, Vi g.2), (23, Vi ((c).length : Int)), (24, Vi f), (29, Vi ((c).length : Int)), (30, Vi k), (41, .bool (g.2 != 0))] (fun F => ?_)))))))
     refine c_if (g.2 != 0) R a (fun a => ?_) (fun a => ?_)
     · refine c_sp (x_u 2 [(42, Vi g.2), (4, Vi g.2)] (x_ek (c_ret (k_then_ret (k_block_ret (k_then_ret ?_))))))
       obtain rfl := some_inj a
       have I := some_inj K
       subst I
       replace a := ae
       refine k_then_ret (k_block_ret (k_block_ret (k_then_ret ?_)))
       obtain rfl := some_inj a
       have I := some_inj L
       subst I
       replace a := ad
       refine k_then_ret (k_block_ret (k_then_ret (r_ret (r_vals [Vi g.2] ⟨R, trivial⟩ ?_))))
       obtain rfl := some_inj a
       exact ⟨R, e⟩
     refine c_skip (k_then (c_seq (c_drawn [] [(0, false), (1, false), (2, false), (3, false), (4, false), (5, false), (6, false), (7, false), (8, false), (9, false), (10, false), (11, false), (12, false), (13, false), (14, false), (15, false), (16, false), (17, false), (18, false), (19, false)] _ (by kernel_rfl) R ?_)))
     have t := Stp.ext (ls := [[d], [b], l]) (Ev.drew Z)
     replace m := (Ev.drew Z).box m nn
     replace o := o.step t
     replace j := (Ev.drew Z).box j nn
     replace p := p.step t
     replace r := r.step t
     replace n := n.ev (Ev.drew Z)
     replace e := e.ext (Ev.drew Z)
     refine x_u 3 [(43, Vi g.1), (44, .bool (decide (g.1 > 0))), (45, .bool (decide (g.1 > 0)))] (x_if 45 (decide (g.1 > 0)) R a (fun a => ?_) (fun a => ?_))
     · refine x_fieldAddr (xv := Vp b 0) (Vp b 0) R R R (reads_field tfld54_0 _ _) (x_fieldAddr (xv := Vp b 0) (Vp b 1) R R R (reads_field tfld52_1 _ _) (x_load (xv := Vp b 1) (Vl u s v) R R R (reads_box tcell22 j nn 1 _ R) (x_u 1 [(49, Vi f)] ?_)))
       obtain ⟨N, aB, a⟩ := bind_some a
       obtain ⟨am, aH, az, ax, af⟩ := reads_index (Mo := []) tsl22 p aB
       obtain rfl := af
       refine x_indexAddr (xv := Vl u s v) (yv := Vi f) (.pointer (some am)) R R R R az (x_load (xv := .pointer (some am)) (Vi N) R R R (reads_cell0 tcell3 ax (fun _ a => by cases a)) ?_)
       refine x_u 3 [(52, Vi g.1), (53, Vi (i64.wrap (N + g.1))), (54, Vi (i64.wrap ((i64.wrap (N + g.1)) - 1)))] (x_fieldAddr (xv := Vp b 0) (Vp b 0) R R R (reads_field tfld54_0 _ _) (x_fieldAddr (xv := Vp b 0) (Vp b 1) R R R (reads_field tfld52_1 _ _) (x_load (xv := Vp b 1) (Vl u s v) R R R (reads_box tcell22 j nn 1 _ R) (x_u 1 [(58, Vi k)] ?_))))
       obtain ⟨aa, aC, a⟩ := bind_some a
       obtain ⟨an, aI, aA, ay, af⟩ := reads_index (Mo := []) tsl22 p aC
       obtain rfl := af
       refine x_indexAddr (xv := Vl u s v) (yv := Vi k) (.pointer (some an)) R R R R aA (x_load (xv := .pointer (some an)) (Vi aa) R R R (reads_cell0 tcell3 ay (fun _ a => by cases a)) ?_)
       refine x_u 2 [(61, .bool (decide ((i64.wrap ((i64.wrap (N + g.1)) - 1)) > aa))), (62, .bool (decide ((i64.wrap ((i64.wrap (N + g.1)) - 1)) > aa)))] (x_ek (c_nm [(2, Vp d 0), (3, Vp b 0), (6, Vi f), (23, Vi ((c).length : Int)), (24, Vi f), (29, Vi ((c).length : Int)), (30, Vi k), (62, .bool (decide ((i64.wrap ((i64.wrap (N + g.1)) - 1)) > aa)))] (fun F => ?_)))
       refine c_if (decide ((i64.wrap ((i64.wrap (N + g.1)) - 1)) > aa)) R a (fun a => ?_) (fun a => ?_)
       · refine c_sp (x_u 1 [(4, Vi 12)] (x_ek (c_ret (k_block_ret (k_then_ret ?_)))))
         obtain rfl := some_inj a
         have I := some_inj K
         subst I
         replace a := ae
         refine k_then_ret (k_block_ret (k_block_ret (k_then_ret ?_)))
         obtain rfl := some_inj a
         have I := some_inj L
         subst I
         replace a := ad
         refine k_then_ret (k_block_ret (k_then_ret (r_ret (r_vals [Vi 12] ⟨R, trivial⟩ ?_))))
         obtain rfl := some_inj a
         exact ⟨R, e⟩
       refine c_skip (k_block (k_then (c_plain (x_u 2 [(63, Vi (i64.wrap (k + 1))), (30, Vi (i64.wrap (k + 1)))] (x_end R ?_)))))
       obtain rfl := some_inj a
       exact k_then ⟨(Q, i64.wrap (k + 1)), ⟨R, R, R, R, R, R, R, trivial⟩, ⟨K, e, n, A, o, m, p, r, j⟩, Nat.lt_succ_self _⟩
     refine x_u 17 [(46, undef), (47, undef), (48, undef), (49, undef), (50, undef), (51, undef), (52, undef), (53, undef), (54, undef), (55, undef), (56, undef), (57, undef), (58, undef), (59, undef), (60, undef), (61, undef), (62, .bool false)] (x_ek (c_nm [(2, Vp d 0), (3, Vp b 0), (6, Vi f), (23, Vi ((c).length : Int)), (24, Vi f), (29, Vi ((c).length : Int)), (30, Vi k), (62, .bool false)] (fun F => ?_)))
     refine c_false R (c_skip (k_block (k_then (c_plain (x_u 2 [(63, Vi (i64.wrap (k + 1))), (30, Vi (i64.wrap (k + 1)))] (x_end R ?_))))))
     obtain rfl := some_inj a
     exact k_then ⟨(Q, i64.wrap (k + 1)), ⟨R, R, R, R, R, R, R, trivial⟩, ⟨K, e, n, A, o, m, p, r, j⟩, Nat.lt_succ_self _⟩
   refine c_exit (k_then_exit ?_)
   obtain rfl := some_inj a
   have I := some_inj K
   subst I
   replace a := ae
   refine k_then_exit (k_block_in (k_block (k_then (c_nm [(2, Vp d 0), (3, Vp b 0), (23, Vi ((c).length : Int)), (24, Vi f)] (fun F => ?_)))))
   refine c_plain (x_u 2 [(64, Vi (i64.wrap (f + 1))), (24, Vi (i64.wrap (f + 1)))] (x_end R ?_))
   obtain rfl := some_inj a
   exact k_then ⟨(X, i64.wrap (f + 1)), ⟨R, R, R, R, trivial⟩, ⟨L, e, n, A, o, m, p, r, j⟩, Nat.lt_succ_self _⟩
 refine c_exit (k_then_exit ?_)
 obtain rfl := some_inj a
 have I := some_inj L
 subst I
 replace a := ad
 refine k_then_exit (k_block_in (k_then (c_nm [(2, Vp d 0), (3, Vp b 0)] (fun F => ?_))))
 refine c_sp (x_load (xv := Vp d 0) (.agg #[Vl h c i, Vi q]) R R R (reads_boxagg 0 [Vl h c i, Vi q] tagg50 m nn R) (x_fieldAddr (xv := Vp b 0) (Vp b 2) R R R (reads_field tfld54_1 _ _) (x_load (xv := Vp b 2) (Vl D B E) R R R (reads_box tcell22 j nn 2 _ R) ?_)))
 obtain ⟨x, H, a⟩ := bind_some a
 have G := leastcode_Bound_w h i c q D E B _ aF (fl [[d], [b], l]) (MS.fold (P := []) n) (o.sub fl1) (r.sub fl1) H
 refine x_call 92 #[] #[] [.agg #[Vl h c i, Vi q], Vl D B E] _ R R R R G ?_
 rintro Y aD ⟨rfl, ao⟩
 clear G H
 refine inl1 ?_
 replace j := ao.box j nn
 replace e := e.ext ao
 refine x_u 5 [(65, .tuple #[Vi x.1, Vi x.2]), (70, Vi x.1), (71, Vi x.2), (10, Vi x.1), (11, Vi x.2)] (x_ek (c_seq (c_sp (x_u 2 [(72, Vi x.2), (73, .bool (x.2 != 0))] (x_ek (c_if (x.2 != 0) R a (fun a => ?_) (fun a => ?_)))))))
 · refine c_sp (x_u 2 [(74, Vi x.2), (4, Vi x.2)] (x_ek (c_nm [(4, Vi x.2)] (fun F => ?_))))
   refine c_ret (k_then_ret (r_ret (r_vals [Vi x.2] ⟨R, trivial⟩ ?_)))
   obtain rfl := some_inj a
   exact ⟨R, e⟩
 refine c_skip (k_then (c_seq (c_sp (x_u 1 [(76, Vi x.1)] ?_))))
 obtain ⟨y, H, a⟩ := bind_some a
 have G := code_Steps_w x.1 _ aD H
 refine x_call 81 #[] #[] [Vi x.1] _ R R R R G ?_
 rintro Y aQ ⟨rfl, ap⟩
 clear G H
 refine inl1 ?_
 replace j := ap.box j nn
 replace e := e.ext ap
 refine x_u 5 [(75, .tuple #[Vi y.1, Vi y.2]), (78, Vi y.1), (79, Vi y.2), (12, Vi y.1), (13, Vi y.2)] (x_ek (c_nm [(3, Vp b 0), (12, Vi y.1), (13, Vi y.2)] (fun F => ?_)))
 refine c_sp (x_u 3 [(80, Vi y.2), (81, .bool (y.2 != 0)), (82, .bool (y.2 != 0))] (x_if 82 (y.2 != 0) R a (fun a => ?_) (fun a => ?_)))
 · refine x_u 6 [(83, undef), (84, undef), (85, undef), (86, undef), (87, undef), (88, .bool true)] (x_ek (c_true R (c_sp (x_u 1 [(4, Vi 17)] (x_ek (c_ret (k_then_ret (r_ret (r_vals [Vi 17] ⟨R, trivial⟩ ?_)))))))))
   obtain rfl := some_inj a
   exact ⟨R, e⟩
 refine x_u 1 [(83, Vi y.1)] (x_fieldAddr (xv := Vp b 0) (Vp b 0) R R R (reads_field tfld54_0 _ _) (x_fieldAddr (xv := Vp b 0) (Vp b 0) R R R (reads_field tfld52_0 _ _) (x_load (xv := Vp b 0) (Vi z) R R R (reads_box tcell3 j nn 0 _ R) (x_u 2 [(87, .bool (y.1 != z)), (88, .bool (y.1 != z))] (x_ek (c_if (y.1 != z) R a (fun a => ?_) (fun a => ?_)))))))
 · refine c_sp (x_u 1 [(4, Vi 17)] (x_ek (c_ret (k_then_ret (r_ret (r_vals [Vi 17] ⟨R, trivial⟩ ?_))))))
   obtain rfl := some_inj a
   exact ⟨R, e⟩
 refine c_skip (k_then (c_sp (x_u 1 [(4, Vi 0)] (x_ek (c_ret (r_ret (r_vals [Vi 0] ⟨R, trivial⟩ ?_)))))))
 obtain rfl := some_inj a
 exact ⟨R, e⟩
end Go.Proofs.YtlejnkhaphlooaaGreat
