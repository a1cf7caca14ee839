
/- Walks, printed by program: each function returns what the partial function of the same name returns. Conditions: those of each theorem. -/
import Derived.Test.YtlejnkhaphlooaaGreatGT
import Derived.Test.YtlejnkhaphlooaaGreatGleastcode
set_option linter.unusedVariables false
set_option linter.unusedSimpArgs false
set_option maxRecDepth 4000
namespace Go.Proofs.YtlejnkhaphlooaaGreat
open Go Go.V Go.Proofs Go.IntKind
def certificate_Make (c : List (Int × Int × Int × Int)) (d : Int) : Option (((Int × (List Int)) × (List Int)) × Int) :=
((leastcode_Least c d).bind fun a =>
(if (a.2 != 0) = true then
some (((0, []), []), a.2)
else
((leastcode_Witness c d).bind fun b =>
(if (b.2 != 0) = true then
some (((0, []), []), b.2)
else
some (((a.1.1, a.1.2), b.1), 0)))))
theorem certificate_Make_w (o : Option Addr) (r : Nat) (n : List (Int × Int × Int × Int)) (u : Int) (C : ((Int × (List Int)) × (List Int)) × Int) (y : World) (e : List Nat) (c : MS y [e]) (v : SlR (eIt4) y (fl [e]) o r n) (s : certificate_Make n u = some C) : CallVC Tryz.prog 21 [.agg #[Vl o n r, Vi u]] y fun ae X => ∃ (D : Option Addr), ∃ (af : Nat), ∃ (E : Option Addr), ∃ (ag : Nat), ae = .tuple #[.agg #[Vi C.1.1.1, Vl D C.1.1.2 af, Vl E C.1.2 ag], Vi C.2] ∧ Ev [] y X ∧ MS X [blk D, blk E, e] ∧ FR y.heap.size [blk D, blk E] ∧ OwnS (eInt .i64) 3 X (fl [blk D, blk E, e]) D af C.1.1.2 ∧ OwnS (eInt .i64) 3 X (fl [blk D, blk E, e]) E ag C.1.2 := by
 refine calls_vc hmx Tryz.func21 (by kernel_rfl) R (rs := [.cell 2 54, .tmp 3]) R (by kernel_rfl) (args := [.agg #[Vl o n r, Vi u]]) R ?_
 have d : Ev [] y y := Ev.refl _ _
 have l : FR y.heap.size [] := FR.nil _
 refine c_sp (x_box (xv := .agg #[Vl o n r, Vi u]) R R R (fun i aC ab t Y aE => ?_))
 replace t : aC.heap[i]? = some (.cells #[Vl o n r, Vi u] 50 (0, 0)) := t
 refine inl1 ?_
 have k := Stp.box (ls := [e]) Y ab
 replace v := v.step k
 replace c := c.box Y ab t
 replace l := l.box d.size ab
 replace d := d.ext Y
 refine x_alloc (z := .agg #[Vi 0, .slice none 0 0, .slice none 0 0]) R R (by kernel_rfl) (fun g al ac j U aF => ?_)
 replace j : al.heap[g]? = some (.cells #[Vi 0, .slice none 0 0, .slice none 0 0] 54 (0, 0)) := j
 refine inl1 ?_
 have k := Stp.box (ls := [[i], e]) U ac
 replace v := v.step k
 replace t := U.box t nn
 replace c := c.box U ac j
 replace l := l.box d.size ac
 replace d := d.ext U
 refine x_u 1 [(3, Vi 0)] (x_ek (c_sp (x_load (xv := Vp i 0) (.agg #[Vl o n r, Vi u]) R R R (reads_boxagg 0 [Vl o n r, Vi u] tagg50 t nn R) ?_)))
 obtain ⟨a, S, s⟩ := bind_some s
 have I := leastcode_Least_w o r n u _ al (fl [[g], [i], e]) (MS.fold (P := []) c) (v.sub fl1) S
 refine x_call 51 #[] #[] [.agg #[Vl o n r, Vi u]] _ R R R R I ?_
 rintro ae aI ⟨b, m, rfl, K, au, aa, w⟩
 clear I S
 refine inl1 ?_
 have k := Stp.call0 [[g], [i], e] [blk b] [blk b, [g], [i], e] K aa R
 replace v := v.step k
 replace t := K.box t nn
 replace j := K.box j nn
 replace c := MS.call0 [blk b] [blk b, [g], [i], e] c K au aa R
 have O := FR.call0 [blk b, [g], [i]] d.size aa l R
 replace d := d.ext K
 replace l := O
 clear O
 replace w := OwnS.plain (M' := fl [blk b, [g], [i], e]) (plain_int _) w
 clear k
 refine x_u 3 [(7, .tuple #[.agg #[Vi a.1.1, Vl b a.1.2 m], Vi a.2]), (10, .agg #[Vi a.1.1, Vl b a.1.2 m]), (11, Vi a.2)] (x_alloc (z := .agg #[Vi 0, .slice none 0 0]) R R (by kernel_rfl) (fun p aD ad x H aG => ?_))
 replace x : aD.heap[p]? = some (.cells #[Vi 0, .slice none 0 0] 52 (0, 0)) := x
 refine inl1 ?_
 have k := Stp.box (ls := [blk b, [g], [i], e]) H ad
 replace v := v.step k
 replace t := H.box t nn
 replace j := H.box j nn
 replace w := w.step k H nn2
 replace c := c.box H ad x
 replace l := l.box d.size ad
 replace d := d.ext H
 obtain ⟨ak, av, an, F⟩ := store_boxagg 0 [Vi a.1.1, Vl b a.1.2 m] #[Vi a.1.1, Vl b a.1.2 m] tagg52 x R R R
 refine x_store ak (xv := Vp p 0) (yv := .agg #[Vi a.1.1, Vl b a.1.2 m]) R R R R av (inl1 ?_)
 have k := Stp.ev' (ls := [[p], blk b, [g], [i], e]) F (mem_flat 0 R)
 replace v := v.step k
 replace t := F.box t (c.apart 3 0 R R R _ mem1)
 replace j := F.box j (c.apart 2 0 R R R _ mem1)
 replace w := w.step k F (c.apart 1 0 R R R)
 replace c := c.ev F
 replace d := d.then F (fun A B => .inr (l.at 0 R A B))
 replace x := an
 refine x_u 1 [(5, Vi a.2)] (x_ek (c_seq (c_sp (x_u 2 [(12, Vi a.2), (13, .bool (a.2 != 0))] (x_ek (c_if (a.2 != 0) R s (fun s => ?_) (fun s => ?_)))))))
 · refine c_sp (x_build (vs := []) (.agg #[Vi 0, .slice none 0 0, .slice none 0 0]) R R R (fun _ _ => by kernel_rfl) ?_)
   refine x_u 1 [(15, Vi a.2)] ?_
   obtain ⟨az, aw, ao, ah⟩ := store_boxagg 0 [Vi 0, .slice none 0 0, .slice none 0 0] #[Vi 0, .slice none 0 0, .slice none 0 0] tagg54 j R R R
   refine x_store az (xv := Vp g 0) (yv := .agg #[Vi 0, .slice none 0 0, .slice none 0 0]) R R R R aw (inl1 ?_)
   replace c := c.ev ah
   replace d := d.then ah (fun A B => .inr (l.at 2 R A B))
   replace j := ao
   refine x_u 1 [(3, Vi a.2)] (x_ek (c_nm [(2, Vp g 0), (3, Vi a.2)] (fun am => ?_)))
   refine c_ret (k_then_ret (r_ret (r_vals [.agg #[Vi 0, .slice none 0 0, .slice none 0 0], Vi a.2] ⟨⟨_, R, loadVar_of_reads (reads_boxagg (Mo := []) 0 [Vi 0, .slice none 0 0, .slice none 0 0] tagg54 j nn R)⟩, R, trivial⟩ ?_)))
   obtain rfl := some_inj s
   have Q := c.pick [none, none, some 4] [blk none, blk none, e] R
   have N := l.pick [none, none] [blk none, blk none] R
   exact ⟨none, 0, none, 0, R, d, Q, N, OwnS.nil _ _ _ _, OwnS.nil _ _ _ _⟩
 refine c_skip (k_then (c_sp (x_load (xv := Vp i 0) (.agg #[Vl o n r, Vi u]) R R R (reads_boxagg 0 [Vl o n r, Vi u] tagg50 t nn R) ?_)))
 obtain ⟨h, S, s⟩ := bind_some s
 have I := leastcode_Witness_w o r n u _ ak (fl [[p], blk b, [g], [i], e]) (MS.fold (P := []) c) (v.sub fl1) S
 refine x_call 52 #[] #[] [.agg #[Vl o n r, Vi u]] _ R R R R I ?_
 rintro ae aH ⟨f, q, rfl, G, ar, Z, L⟩
 clear I S
 refine inl1 ?_
 have k := Stp.call0 [[p], blk b, [g], [i], e] [blk f] [blk f, [p], blk b, [g], [i], e] G Z R
 replace j := G.box j nn
 replace w := w.step k G nn2
 replace x := G.box x nn
 replace c := MS.call0 [blk f] [blk f, [p], blk b, [g], [i], e] c G ar Z R
 have O := FR.call0 [blk f, [p], blk b, [g], [i]] d.size Z l R
 replace d := d.ext G
 replace l := O
 clear O
 replace L := OwnS.plain (M' := fl [blk f, [p], blk b, [g], [i], e]) (plain_int _) L
 clear k
 refine x_u 5 [(16, .tuple #[Vl f h.1 q, Vi h.2]), (19, Vl f h.1 q), (20, Vi h.2), (6, Vl f h.1 q), (5, Vi h.2)] (x_ek (c_nm [(2, Vp g 0), (4, Vp p 0), (5, Vi h.2), (6, Vl f h.1 q)] (fun am => ?_)))
 refine c_seq (c_sp (x_u 2 [(21, Vi h.2), (22, .bool (h.2 != 0))] (x_ek (c_if (h.2 != 0) R s (fun s => ?_) (fun s => ?_)))))
 · refine c_sp (x_build (vs := []) (.agg #[Vi 0, .slice none 0 0, .slice none 0 0]) R R R (fun _ _ => by kernel_rfl) ?_)
   refine x_u 1 [(24, Vi h.2)] ?_
   obtain ⟨aA, ax, ap, ai⟩ := store_boxagg 0 [Vi 0, .slice none 0 0, .slice none 0 0] #[Vi 0, .slice none 0 0, .slice none 0 0] tagg54 j R R R
   refine x_store aA (xv := Vp g 0) (yv := .agg #[Vi 0, .slice none 0 0, .slice none 0 0]) R R R R ax (inl1 ?_)
   replace c := c.ev ai
   replace d := d.then ai (fun A B => .inr (l.at 3 R A B))
   replace j := ap
   refine x_u 1 [(3, Vi h.2)] (x_ek (c_ret (k_then_ret (r_ret (r_vals [.agg #[Vi 0, .slice none 0 0, .slice none 0 0], Vi h.2] ⟨⟨_, R, loadVar_of_reads (reads_boxagg (Mo := []) 0 [Vi 0, .slice none 0 0, .slice none 0 0] tagg54 j nn R)⟩, R, trivial⟩ ?_)))))
   obtain rfl := some_inj s
   have Q := c.pick [none, none, some 5] [blk none, blk none, e] R
   have N := l.pick [none, none] [blk none, blk none] R
   exact ⟨none, 0, none, 0, R, d, Q, N, OwnS.nil _ _ _ _, OwnS.nil _ _ _ _⟩
 refine c_skip (k_then (c_sp (x_load (xv := Vp p 0) (.agg #[Vi a.1.1, Vl b a.1.2 m]) R R R (reads_boxagg 0 [Vi a.1.1, Vl b a.1.2 m] tagg52 x nn R) (x_u 1 [(26, Vl f h.1 q)] (x_build (vs := [(0, .agg #[Vi a.1.1, Vl b a.1.2 m]), (1, Vl f h.1 q)]) (.agg #[Vi a.1.1, Vl b a.1.2 m, Vl f h.1 q]) R R R (fun _ _ => by kernel_rfl) ?_)))))
 obtain ⟨aB, ay, aq, J⟩ := store_boxagg 0 [Vi a.1.1, Vl b a.1.2 m, Vl f h.1 q] #[Vi a.1.1, Vl b a.1.2 m, Vl f h.1 q] tagg54 j R R R
 refine x_store aB (xv := Vp g 0) (yv := .agg #[Vi a.1.1, Vl b a.1.2 m, Vl f h.1 q]) R R R R ay (inl1 ?_)
 have k := Stp.ev' (ls := [blk f, [p], blk b, [g], [i], e]) J (mem_flat 3 R)
 replace w := w.step k J (c.apart 2 3 R R R)
 replace L := L.step k J (c.apart 0 3 R R R)
 replace c := c.ev J
 replace d := d.then J (fun A B => .inr (l.at 3 R A B))
 replace j := aq
 refine x_u 1 [(3, Vi 0)] (x_ek (c_ret (r_ret (r_vals [.agg #[Vi a.1.1, Vl b a.1.2 m, Vl f h.1 q], Vi 0] ⟨⟨_, R, loadVar_of_reads (reads_boxagg (Mo := []) 0 [Vi a.1.1, Vl b a.1.2 m, Vl f h.1 q] tagg54 j nn R)⟩, R, trivial⟩ ?_))))
 obtain rfl := some_inj s
 have Q := c.pick [some 2, some 0, some 5] [blk b, blk f, e] R
 have aj := pick_sub (ls := [blk f, [p], blk b, [g], [i], e]) [some 2, some 0, some 5] [blk b, blk f, e] R
 have N := l.pick [some 2, some 0] [blk b, blk f] R
 exact ⟨b, m, f, q, R, d, Q, N, w.sub aj, L.sub aj⟩
end Go.Proofs.YtlejnkhaphlooaaGreat
