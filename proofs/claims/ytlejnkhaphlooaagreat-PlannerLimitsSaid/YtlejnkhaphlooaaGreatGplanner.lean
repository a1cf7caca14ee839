
/- Walks, printed by program: each function returns what the partial function of the same name returns. Conditions: those of each theorem. -/
import Derived.Test.YtlejnkhaphlooaaGreatGT
import Derived.Test.YtlejnkhaphlooaaGreatGassign
import Derived.Test.YtlejnkhaphlooaaGreatGcertificate
import Derived.Test.YtlejnkhaphlooaaGreatGconsist
import Derived.Test.YtlejnkhaphlooaaGreatGjob
import Derived.Test.YtlejnkhaphlooaaGreatGleastcode
import Derived.Test.YtlejnkhaphlooaaGreatGrollin
import Derived.Test.YtlejnkhaphlooaaGreatGslices
import Derived.Test.YtlejnkhaphlooaaGreatGslplanner
set_option linter.unusedVariables false
set_option linter.unusedSimpArgs false
set_option maxRecDepth 4000
namespace Go.Proofs.YtlejnkhaphlooaaGreat
open Go Go.V Go.Proofs Go.IntKind
def planner_scheme (c : List (Int × Int × Int × Int)) (b : Int) : Option ((Int × Int × Int × Int) × (Int × (List Int)) × Bool) :=
((leastcode_Least c b).bind fun a =>
(if (a.2 != 0) = true then
some ((0, 0, 0, 0), (0, []), false)
else
((rollin_Run c b a.1.1 a.1.2).bind fun d =>
(if (d.2 != 0) = true then
some ((0, 0, 0, 0), (0, []), false)
else
((rollin_Pushes c b a.1.1 a.1.2).bind fun e =>
some ((b, a.1.1, d.1.2, e.1), (a.1.1, a.1.2), true))))))
theorem planner_scheme_w (s : Option Addr) (u : Nat) (r : List (Int × Int × Int × Int)) (m : Int) (F : (Int × Int × Int × Int) × (Int × (List Int)) × Bool) (N : World) (g : List Nat) (a : MS N [g]) (q : SlR (eIt4) N (fl [g]) s u r) (C : planner_scheme r m = some F) : CallVC Tryz.prog 47 [Vl s r u, Vi m] N fun ak aA => ∃ (Z : Option Addr), ∃ (aB : Nat), ak = .tuple #[.agg #[Vi F.1.1, Vi F.1.2.1, Vi F.1.2.2.1, Vi F.1.2.2.2], .agg #[Vi F.2.1.1, Vl Z F.2.1.2 aB], .bool F.2.2] ∧ Ev [] N aA ∧ MS aA [blk Z, g] ∧ FR N.heap.size [blk Z] ∧ OwnS (eInt .i64) 3 aA (fl [blk Z, g]) Z aB F.2.1.2 := by
 refine calls_vc hmx Tryz.func47 (by kernel_rfl) R (rs := [.cell 4 48, .cell 5 52, .tmp 6]) R (by kernel_rfl) (args := [Vl s r u, Vi m]) R ?_
 have c : Ev [] N N := Ev.refl _ _
 have n : FR N.heap.size [] := FR.nil _
 refine c_sp (x_alloc (z := .agg #[Vi 0, Vi 0, Vi 0, Vi 0]) R R (by kernel_rfl) (fun e a9 aw f ao bj => ?_))
 replace f : a9.heap[e]? = some (.cells #[Vi 0, Vi 0, Vi 0, Vi 0] 48 (0, 0)) := f
 refine inl1 ?_
 have k := Stp.box (ls := [g]) ao aw
 replace q := q.step k
 replace a := a.box ao aw f
 replace n := n.box c.size aw
 replace c := c.ext ao
 refine x_alloc (z := .agg #[Vi 0, .slice none 0 0]) R R (by kernel_rfl) (fun h bf ay i aj bl => ?_)
 replace i : bf.heap[h]? = some (.cells #[Vi 0, .slice none 0 0] 52 (0, 0)) := i
 refine inl1 ?_
 have k := Stp.box (ls := [[e], g]) aj ay
 replace q := q.step k
 replace f := aj.box f nn
 replace a := a.box aj ay i
 replace n := n.box c.size ay
 replace c := c.ext aj
 refine x_u 1 [(6, .bool false)] (x_ek (c_sp (x_u 2 [(13, Vl s r u), (14, Vi m)] (x_build (vs := [(0, Vl s r u), (1, Vi m)]) (.agg #[Vl s r u, Vi m]) R R R (fun _ _ => by kernel_rfl) ?_))))
 refine x_alloc (z := .agg #[.slice none 0 0, Vi 0]) R R (by kernel_rfl) (fun j bg az v ad bm => ?_)
 replace v : bg.heap[j]? = some (.cells #[.slice none 0 0, Vi 0] 50 (0, 0)) := v
 refine inl1 ?_
 have k := Stp.box (ls := [[h], [e], g]) ad az
 replace q := q.step k
 replace f := ad.box f nn
 replace i := ad.box i nn
 replace a := a.box ad az v
 replace n := n.box c.size az
 replace c := c.ext ad
 obtain ⟨aE, a4, aO, ae⟩ := store_boxagg 0 [Vl s r u, Vi m] #[Vl s r u, Vi m] tagg50 v R R R
 refine x_store aE (xv := Vp j 0) (yv := .agg #[Vl s r u, Vi m]) R R R R a4 (inl1 ?_)
 have k := Stp.ev' (ls := [[j], [h], [e], g]) ae (mem_flat 0 R)
 replace q := q.step k
 replace f := ae.box f (a.apart 2 0 R R R _ mem1)
 replace i := ae.box i (a.apart 1 0 R R R _ mem1)
 replace a := a.ev ae
 replace c := c.then ae (fun y B => .inr (n.at 0 R y B))
 replace v := aO
 refine x_ek (c_sp (x_load (xv := Vp j 0) (.agg #[Vl s r u, Vi m]) R R R (reads_boxagg 0 [Vl s r u, Vi m] tagg50 v nn R) ?_))
 obtain ⟨b, L, C⟩ := bind_some C
 have G := leastcode_Least_w s u r m _ aE (fl [[j], [h], [e], g]) (MS.fold (P := []) a) (q.sub fl1) L
 refine x_call 51 #[] #[] [.agg #[Vl s r u, Vi m]] _ R R R R G ?_
 rintro ak bn ⟨d, t, rfl, X, aQ, ar, p⟩
 clear G L
 refine inl1 ?_
 have k := Stp.call0 [[j], [h], [e], g] [blk d] [blk d, [j], [h], [e], g] X ar R
 replace q := q.step k
 replace f := X.box f nn
 replace i := X.box i nn
 replace v := X.box v nn
 replace a := MS.call0 [blk d] [blk d, [j], [h], [e], g] a X aQ ar R
 have ag := FR.call0 [blk d, [j], [h], [e]] c.size ar n R
 replace c := c.ext X
 replace n := ag
 clear ag
 replace p := OwnS.plain (M' := fl [blk d, [j], [h], [e], g]) (plain_int _) p
 clear k
 refine x_u 3 [(16, .tuple #[.agg #[Vi b.1.1, Vl d b.1.2 t], Vi b.2]), (19, .agg #[Vi b.1.1, Vl d b.1.2 t]), (20, Vi b.2)] (x_alloc (z := .agg #[Vi 0, .slice none 0 0]) R R (by kernel_rfl) (fun l a6 av w Q bi => ?_))
 replace w : a6.heap[l]? = some (.cells #[Vi 0, .slice none 0 0] 52 (0, 0)) := w
 refine inl1 ?_
 have k := Stp.box (ls := [blk d, [j], [h], [e], g]) Q av
 replace q := q.step k
 replace f := Q.box f nn
 replace i := Q.box i nn
 replace v := Q.box v nn
 replace p := p.step k Q nn2
 replace a := a.box Q av w
 replace n := n.box c.size av
 replace c := c.ext Q
 obtain ⟨aC, aU, aF, S⟩ := store_boxagg 0 [Vi b.1.1, Vl d b.1.2 t] #[Vi b.1.1, Vl d b.1.2 t] tagg52 w R R R
 refine x_store aC (xv := Vp l 0) (yv := .agg #[Vi b.1.1, Vl d b.1.2 t]) R R R R aU (inl1 ?_)
 have k := Stp.ev' (ls := [[l], blk d, [j], [h], [e], g]) S (mem_flat 0 R)
 replace q := q.step k
 replace f := S.box f (a.apart 4 0 R R R _ mem1)
 replace i := S.box i (a.apart 3 0 R R R _ mem1)
 replace v := S.box v (a.apart 2 0 R R R _ mem1)
 replace p := p.step k S (a.apart 1 0 R R R)
 replace a := a.ev S
 replace c := c.then S (fun y B => .inr (n.at 0 R y B))
 replace w := aF
 refine x_u 1 [(9, Vi b.2)] (x_ek (c_nm [(1, Vi m), (4, Vp e 0), (5, Vp h 0), (7, Vp j 0), (8, Vp l 0), (9, Vi b.2)] (fun al => ?_)))
 refine c_seq (c_sp (x_u 2 [(21, Vi b.2), (22, .bool (b.2 != 0))] (x_ek (c_if (b.2 != 0) R C (fun C => ?_) (fun C => ?_)))))
 · refine c_sp (x_build (vs := []) (.agg #[Vi 0, Vi 0, Vi 0, Vi 0]) R R R (fun _ _ => by kernel_rfl) ?_)
   refine x_build (vs := []) (.agg #[Vi 0, .slice none 0 0]) R R R (fun _ _ => by kernel_rfl) ?_
   obtain ⟨a7, aX, aG, am⟩ := store_boxagg 0 [Vi 0, Vi 0, Vi 0, Vi 0] #[Vi 0, Vi 0, Vi 0, Vi 0] tagg48 f R R R
   refine x_store a7 (xv := Vp e 0) (yv := .agg #[Vi 0, Vi 0, Vi 0, Vi 0]) R R R R aX (inl1 ?_)
   replace i := am.box i (a.apart 3 4 R R R _ mem1)
   replace a := a.ev am
   replace c := c.then am (fun y B => .inr (n.at 4 R y B))
   replace f := aG
   obtain ⟨a8, aY, aH, an⟩ := store_boxagg 0 [Vi 0, .slice none 0 0] #[Vi 0, .slice none 0 0] tagg52 i R R R
   refine x_store a8 (xv := Vp h 0) (yv := .agg #[Vi 0, .slice none 0 0]) R R R R aY (inl1 ?_)
   replace f := an.box f (a.apart 4 3 R R R _ mem1)
   replace a := a.ev an
   replace c := c.then an (fun y B => .inr (n.at 3 R y B))
   replace i := aH
   refine x_u 1 [(6, .bool false)] (x_ek (c_ret (k_then_ret (r_ret (r_vals [.agg #[Vi 0, Vi 0, Vi 0, Vi 0], .agg #[Vi 0, .slice none 0 0], .bool false] ⟨⟨_, R, loadVar_of_reads (reads_boxagg (Mo := []) 0 [Vi 0, Vi 0, Vi 0, Vi 0] tagg48 f nn R)⟩, ⟨_, R, loadVar_of_reads (reads_boxagg (Mo := []) 0 [Vi 0, .slice none 0 0] tagg52 i nn R)⟩, R, trivial⟩ ?_)))))
   obtain rfl := some_inj C
   have ah := a.pick [none, some 5] [blk none, g] R
   have af := n.pick [none] [blk none] R
   exact ⟨none, 0, R, c, ah, af, OwnS.nil _ _ _ _⟩
 refine c_skip (k_then (c_sp (x_load (xv := Vp j 0) (.agg #[Vl s r u, Vi m]) R R R (reads_boxagg 0 [Vl s r u, Vi m] tagg50 v nn R) (x_load (xv := Vp l 0) (.agg #[Vi b.1.1, Vl d b.1.2 t]) R R R (reads_boxagg 0 [Vi b.1.1, Vl d b.1.2 t] tagg52 w nn R) ?_))))
 obtain ⟨o, L, C⟩ := bind_some C
 have ai := a.pick [some 0, some 2, some 3, some 4, some 5] ([] ++ [[l], [j], [h], [e], g]) R
 have U := sub_fold (ls := [[l], blk d, [j], [h], [e], g]) [some 0, some 2, some 3, some 4, some 5] [[l], [j], [h], [e], g] R
 have G := rollin_Run_w s u r m b.1.1 d t b.1.2 _ aC (fl [[l], [j], [h], [e], g]) (MS.fold (P := []) ai) (q.sub U) (p.ro U (pick_outf a 1 R [some 0, some 2, some 3, some 4, some 5] [[l], [j], [h], [e], g] R R)) L
 refine x_call 22 #[] #[] [.agg #[Vl s r u, Vi m], .agg #[Vi b.1.1, Vl d b.1.2 t]] _ R R R R G ?_
 rintro ak bo ⟨aa, ab, x, rfl, H, aS, au, bh⟩
 clear G L
 refine inl1 ?_
 have k := Stp.call0 [[l], blk d, [j], [h], [e], g] [x] [x, [l], blk d, [j], [h], [e], g] H au R
 replace q := q.step k
 replace f := H.box f nn
 replace i := H.box i nn
 replace v := H.box v nn
 replace p := p.step k H nn2
 replace w := H.box w nn
 replace a := MS.call0 [x] [x, [l], blk d, [j], [h], [e], g] a H aS au R
 have ag := FR.call0 [x, [l], blk d, [j], [h], [e]] c.size au n R
 replace c := c.ext H
 replace n := ag
 clear ag
 clear ai U k
 refine x_u 3 [(25, .tuple #[.agg #[Vl aa o.1.1 ab, Vi o.1.2], Vi o.2]), (29, .agg #[Vl aa o.1.1 ab, Vi o.1.2]), (30, Vi o.2)] (x_alloc (z := .agg #[.slice none 0 0, Vi 0]) R R (by kernel_rfl) (fun A ba ax E I bk => ?_))
 replace E : ba.heap[A]? = some (.cells #[.slice none 0 0, Vi 0] 59 (0, 0)) := E
 refine inl1 ?_
 have k := Stp.box (ls := [x, [l], blk d, [j], [h], [e], g]) I ax
 replace q := q.step k
 replace f := I.box f nn
 replace i := I.box i nn
 replace v := I.box v nn
 replace p := p.step k I nn2
 replace w := I.box w nn
 replace a := a.box I ax E
 replace n := n.box c.size ax
 replace c := c.ext I
 obtain ⟨aD, aZ, aI, J⟩ := store_boxagg 0 [Vl aa o.1.1 ab, Vi o.1.2] #[Vl aa o.1.1 ab, Vi o.1.2] tagg59 E R R R
 refine x_store aD (xv := Vp A 0) (yv := .agg #[Vl aa o.1.1 ab, Vi o.1.2]) R R R R aZ (inl1 ?_)
 have k := Stp.ev' (ls := [[A], x, [l], blk d, [j], [h], [e], g]) J (mem_flat 0 R)
 replace q := q.step k
 replace f := J.box f (a.apart 6 0 R R R _ mem1)
 replace i := J.box i (a.apart 5 0 R R R _ mem1)
 replace v := J.box v (a.apart 4 0 R R R _ mem1)
 replace p := p.step k J (a.apart 3 0 R R R)
 replace w := J.box w (a.apart 2 0 R R R _ mem1)
 replace a := a.ev J
 replace c := c.then J (fun y B => .inr (n.at 0 R y B))
 replace E := aI
 refine x_u 1 [(9, Vi o.2)] (x_ek (c_seq (c_sp (x_u 2 [(31, Vi o.2), (32, .bool (o.2 != 0))] (x_ek (c_if (o.2 != 0) R C (fun C => ?_) (fun C => ?_)))))))
 · refine c_sp (x_build (vs := []) (.agg #[Vi 0, Vi 0, Vi 0, Vi 0]) R R R (fun _ _ => by kernel_rfl) ?_)
   refine x_build (vs := []) (.agg #[Vi 0, .slice none 0 0]) R R R (fun _ _ => by kernel_rfl) ?_
   obtain ⟨bb, a0, aJ, ap⟩ := store_boxagg 0 [Vi 0, Vi 0, Vi 0, Vi 0] #[Vi 0, Vi 0, Vi 0, Vi 0] tagg48 f R R R
   refine x_store bb (xv := Vp e 0) (yv := .agg #[Vi 0, Vi 0, Vi 0, Vi 0]) R R R R a0 (inl1 ?_)
   replace i := ap.box i (a.apart 5 6 R R R _ mem1)
   replace a := a.ev ap
   replace c := c.then ap (fun y B => .inr (n.at 6 R y B))
   replace f := aJ
   obtain ⟨bc, a1, aK, aq⟩ := store_boxagg 0 [Vi 0, .slice none 0 0] #[Vi 0, .slice none 0 0] tagg52 i R R R
   refine x_store bc (xv := Vp h 0) (yv := .agg #[Vi 0, .slice none 0 0]) R R R R a1 (inl1 ?_)
   replace f := aq.box f (a.apart 6 5 R R R _ mem1)
   replace a := a.ev aq
   replace c := c.then aq (fun y B => .inr (n.at 5 R y B))
   replace i := aK
   refine x_u 1 [(6, .bool false)] (x_ek (c_nm [(4, Vp e 0), (5, Vp h 0), (6, .bool false)] (fun al => ?_)))
   refine c_ret (k_then_ret (r_ret (r_vals [.agg #[Vi 0, Vi 0, Vi 0, Vi 0], .agg #[Vi 0, .slice none 0 0], .bool false] ⟨⟨_, R, loadVar_of_reads (reads_boxagg (Mo := []) 0 [Vi 0, Vi 0, Vi 0, Vi 0] tagg48 f nn R)⟩, ⟨_, R, loadVar_of_reads (reads_boxagg (Mo := []) 0 [Vi 0, .slice none 0 0] tagg52 i nn R)⟩, R, trivial⟩ ?_)))
   obtain rfl := some_inj C
   have ah := a.pick [none, some 7] [blk none, g] R
   have af := n.pick [none] [blk none] R
   exact ⟨none, 0, R, c, ah, af, OwnS.nil _ _ _ _⟩
 refine c_skip (k_then (c_nm [(1, Vi m), (4, Vp e 0), (5, Vp h 0), (7, Vp j 0), (8, Vp l 0), (10, Vp A 0)] (fun al => ?_)))
 refine c_sp (x_load (xv := Vp j 0) (.agg #[Vl s r u, Vi m]) R R R (reads_boxagg 0 [Vl s r u, Vi m] tagg50 v nn R) (x_load (xv := Vp l 0) (.agg #[Vi b.1.1, Vl d b.1.2 t]) R R R (reads_boxagg 0 [Vi b.1.1, Vl d b.1.2 t] tagg52 w nn R) ?_))
 obtain ⟨D, L, C⟩ := bind_some C
 have ai := a.pick [some 0, some 1, some 2, some 4, some 5, some 6, some 7] ([] ++ [[A], x, [l], [j], [h], [e], g]) R
 have U := sub_fold (ls := [[A], x, [l], blk d, [j], [h], [e], g]) [some 0, some 1, some 2, some 4, some 5, some 6, some 7] [[A], x, [l], [j], [h], [e], g] R
 have G := rollin_Pushes_w s u r m b.1.1 d t b.1.2 _ aD (fl [[A], x, [l], [j], [h], [e], g]) (MS.fold (P := []) ai) (q.sub U) (p.ro U (pick_outf a 3 R [some 0, some 1, some 2, some 4, some 5, some 6, some 7] [[A], x, [l], [j], [h], [e], g] R R)) L
 refine x_call 23 #[] #[] [.agg #[Vl s r u, Vi m], .agg #[Vi b.1.1, Vl d b.1.2 t]] _ R R R R G ?_
 rintro ak O ⟨rfl, K⟩
 clear G L
 refine inl1 ?_
 have k := Stp.ext (ls := [[A], x, [l], blk d, [j], [h], [e], g]) K
 replace f := K.box f nn
 replace i := K.box i nn
 replace p := p.step k K nn2
 replace w := K.box w nn
 replace E := K.box E nn
 replace a := a.ev K
 replace c := c.ext K
 clear ai U
 refine x_u 5 [(35, .tuple #[Vi D.1, Vi D.2]), (39, Vi D.1), (40, Vi D.2), (11, Vi D.1), (12, Vi D.2)] (x_ek (c_seq (c_drawn [e] [(0, true), (1, true), (2, true), (3, true), (4, true), (5, true), (6, true), (7, false), (8, false), (9, true), (10, true)] _ (by kernel_rfl) R ?_)))
 have k := Stp.ext (ls := [[A], x, [l], blk d, [j], [h], [e], g]) (Ev.drew O)
 replace f := (Ev.drew O).box f nn
 replace i := (Ev.drew O).box i nn
 replace p := p.step k (Ev.drew O) nn2
 replace w := (Ev.drew O).box w nn
 replace E := (Ev.drew O).box E nn
 replace a := a.ev (Ev.drew O)
 replace c := c.ext (Ev.drew O)
 refine x_u 1 [(41, Vi m)] (x_fieldAddr (xv := Vp l 0) (Vp l 0) R R R (reads_field tfld52_0 _ _) (x_load (xv := Vp l 0) (Vi b.1.1) R R R (reads_box tcell3 w nn 0 _ R) (x_fieldAddr (xv := Vp A 0) (Vp A 1) R R R (reads_field tfld59_1 _ _) (x_load (xv := Vp A 1) (Vi o.1.2) R R R (reads_box tcell3 E nn 1 _ R) (x_u 1 [(46, Vi D.1)] (x_build (vs := [(0, Vi m), (1, Vi b.1.1), (2, Vi o.1.2), (3, Vi D.1)]) (.agg #[Vi m, Vi b.1.1, Vi o.1.2, Vi D.1]) R R R (fun _ _ => by kernel_rfl) ?_))))))
 refine x_load (xv := Vp l 0) (.agg #[Vi b.1.1, Vl d b.1.2 t]) R R R (reads_boxagg 0 [Vi b.1.1, Vl d b.1.2 t] tagg52 w ((a.apart 2 6 R R R) _ mem1) R) ?_
 obtain ⟨bd, a2, aL, Y⟩ := store_boxagg 0 [Vi m, Vi b.1.1, Vi o.1.2, Vi D.1] #[Vi m, Vi b.1.1, Vi o.1.2, Vi D.1] tagg48 f R R R
 refine x_store bd (xv := Vp e 0) (yv := .agg #[Vi m, Vi b.1.1, Vi o.1.2, Vi D.1]) R R R R a2 (⟨.inr Y, ?_⟩)
 have k := Stp.ev' (ls := [[A], x, [l], blk d, [j], [h], [e], g]) Y (mem_flat 6 R)
 replace i := Y.box i (a.apart 5 6 R R R _ mem1)
 replace p := p.step k Y (a.apart 3 6 R R R)
 replace a := a.ev Y
 replace c := c.then Y (fun y B => .inr (n.at 6 R y B))
 replace f := aL
 obtain ⟨be, a3, aN, ac⟩ := store_boxagg 0 [Vi b.1.1, Vl d b.1.2 t] #[Vi b.1.1, Vl d b.1.2 t] tagg52 i R R R
 refine x_store be (xv := Vp h 0) (yv := .agg #[Vi b.1.1, Vl d b.1.2 t]) R R R R a3 (inl1 ?_)
 have k := Stp.ev' (ls := [[A], x, [l], blk d, [j], [h], [e], g]) ac (mem_flat 5 R)
 replace f := ac.box f (a.apart 6 5 R R R _ mem1)
 replace p := p.step k ac (a.apart 3 5 R R R)
 replace a := a.ev ac
 replace c := c.then ac (fun y B => .inr (n.at 5 R y B))
 replace i := aN
 refine x_u 1 [(6, .bool true)] (x_ek (c_nm [(4, Vp e 0), (5, Vp h 0), (6, .bool true)] (fun al => ?_)))
 refine c_ret (r_ret (r_vals [.agg #[Vi m, Vi b.1.1, Vi o.1.2, Vi D.1], .agg #[Vi b.1.1, Vl d b.1.2 t], .bool true] ⟨⟨_, R, loadVar_of_reads (reads_boxagg (Mo := []) 0 [Vi m, Vi b.1.1, Vi o.1.2, Vi D.1] tagg48 f nn R)⟩, ⟨_, R, loadVar_of_reads (reads_boxagg (Mo := []) 0 [Vi b.1.1, Vl d b.1.2 t] tagg52 i nn R)⟩, R, trivial⟩ ?_))
 obtain rfl := some_inj C
 have ah := a.pick [some 3, some 7] [blk d, g] R
 have a5 := pick_sub (ls := [[A], x, [l], blk d, [j], [h], [e], g]) [some 3, some 7] [blk d, g] R
 have af := n.pick [some 3] [blk d] R
 exact ⟨d, t, R, c, ah, af, p.sub a5⟩
def planner_Schemes_L6 (d : List (Int × Int × Int × Int)) (e : (List (Int × Int × Int × Int)) × Int) : Option (Step ((List (Int × Int × Int × Int)) × Int) (List (Int × Int × Int × Int))) :=
match e with
| (b, c) =>
(if (decide (c < 4)) = true then
((idx ([0, 1, 2, 12] : List Int) c).bind fun f =>
((planner_scheme d f).bind fun a =>
(if a.2.2 = true then
(if b.length + ([(a.1.1, a.1.2.1, a.1.2.2.1, a.1.2.2.2)] : List (Int × Int × Int × Int)).length ≤ 4294967296 then
some (.next ((b ++ ([(a.1.1, a.1.2.1, a.1.2.2.1, a.1.2.2.2)] : List (Int × Int × Int × Int))), i64.wrap (c + 1)))
else none)
else
some (.next (b, i64.wrap (c + 1))))))
else
some (.done b))
def planner_Schemes (b : List (Int × Int × Int × Int)) : Option ((List (Int × Int × Int × Int)) × Int) :=
((job_Valid b 0).bind fun d =>
(if (d != 0) = true then
some ([], d)
else
((loop (planner_Schemes_L6 b) (([] : List (Int × Int × Int × Int)), 0)).bind fun e => match e with
| a => (if (((a).length : Int) == 0) = true then
some ([], 15)
else
((slices_SortStableFunc_humpyard_api_Scheme_humpyard_api_Scheme_ a).bind fun c =>
(if c.length = a.length then
some (c, 0)
else none))))))
theorem planner_Schemes_w (t : Option Addr) (u : Nat) (p : List (Int × Int × Int × Int)) (ae : (List (Int × Int × Int × Int)) × Int) (v : World) (e : List Nat) (f : MS v [e]) (h : SlR (eIt4) v (fl [e]) t u p) (d : planner_Schemes p = some ae) : CallVC Tryz.prog 20 [.slice t (p).length u] v fun af G => ∃ (N : Option Addr), ∃ (au : Nat), af = .tuple #[.slice N (ae.1).length au, Vi ae.2] ∧ Ev [] v G ∧ MS G [blk N, e] ∧ FR v.heap.size [blk N] ∧ OwnS (eIt4) 48 G (fl [blk N, e]) N au ae.1 := by
 refine calls_vc hmx Tryz.func20 (by kernel_rfl) R (rs := [.tmp 2, .tmp 3]) R (by kernel_rfl) (args := [.slice t (p).length u]) R ?_
 have g : Ev [] v v := Ev.refl _ _
 have i : FR v.heap.size [] := FR.nil _
 refine c_sp (x_u 2 [(2, .slice none 0 0), (3, Vi 0)] (x_ek (c_seq (c_sp (x_u 1 [(11, .slice t (p).length u)] (x_build (vs := [(0, .slice t (p).length u)]) (.agg #[.slice t (p).length u, Vi 0]) R R R (fun _ _ => by kernel_rfl) ?_))))))
 obtain ⟨H, B, d⟩ := bind_some d
 have D := job_Valid_w t u p 0 _ v (fl [e]) (MS.fold (P := []) f) (h.sub fl1) B
 refine x_call 46 #[] #[] [.agg #[.slice t (p).length u, Vi 0]] _ R R R R D ?_
 rintro af aI ⟨rfl, al⟩
 clear D B
 refine inl1 ?_
 have j := Stp.ext (ls := [e]) al
 replace h := h.step j
 replace f := f.ev al
 replace g := g.ext al
 refine x_u 1 [(4, Vi H)] (x_ek (c_sp (x_u 2 [(14, Vi H), (15, .bool (H != 0))] (x_ek (c_if (H != 0) R d (fun d => ?_) (fun d => ?_))))))
 · refine c_sp (x_u 3 [(16, Vi H), (2, .slice none 0 0), (3, Vi H)] (x_ek (c_ret (k_then_ret (r_ret (r_vals [.slice none 0 0, Vi H] ⟨R, R, trivial⟩ ?_))))))
   obtain rfl := some_inj d
   have Y := f.pick [none, some 0] [blk none, e] R
   have X := i.pick [none] [blk none] R
   exact ⟨none, 0, R, g, Y, X, OwnS.nil _ _ _ _⟩
 refine c_skip (k_then (c_sp (x_u 1 [(5, .slice none 0 0)] (x_ek (c_seq (c_sp (x_build (vs := [(0, Vi 0), (1, Vi 1), (2, Vi 2), (3, Vi 12)]) (.agg #[Vi 0, Vi 1, Vi 2, Vi 12]) R R R (fun _ _ => by kernel_rfl) ?_)))))))
 refine x_u 1 [(18, Vi 0)] (x_ek (c_block ?_))
 have j := Stp.push (ls := [e]) (l := blk none) (Ev.refl [] aI) (fun _ d => by cases d) (fun _ d => by cases d)
 replace h := h.step j
 replace f := f.push (l := blk none) (Ev.refl [] _) (fun _ d => by cases d)
 replace i := i.push (l := blk none) (fun _ d => by cases d)
 have aU := OwnS.nil (eIt4) 48 aI (fl [blk none, e])
 obtain ⟨aJ, aj, aK⟩ := bind_some d
 obtain ⟨K, aj⟩ := loop_some aj
 refine c_loop (loop_rule hmx (σ := Nat × (List (Int × Int × Int × Int)) × Int × Option Addr × Nat) (fun Z => match Z with | (_, n, s, b, o) => [(0, .slice t (p).length u), (5, .slice b (n).length o), (17, .agg #[Vi 0, Vi 1, Vi 2, Vi 12]), (18, Vi s)]) (fun Z G => match Z with | (a5, n, s, b, o) => loopN (planner_Schemes_L6 p) a5 (n, s) = some aJ ∧ Ev [] v G ∧ MS G [blk b, e] ∧ FR v.heap.size [blk b] ∧ SlR (eIt4) G (fl [blk b, e]) t u p ∧ OwnS (eIt4) 48 G (fl [blk b, e]) b o n) (fun Z => Z.1) (K, ([] : List (Int × Int × Int × Int)), 0, none, 0) ⟨R, R, R, R, trivial⟩ ⟨aj, g, f, i, h, aU⟩ ?_)
 rintro ⟨K, n, s, b, o⟩ ai ag ⟨J, g, f, i, h, m⟩
 rcases K with _ | K
 · exact (loopN_zero J).elim
 obtain ⟨bh, d, J⟩ := bind_some J
 refine c_sp (x_u 1 [(19, .bool (decide (s < 4)))] (x_ek (c_nm [(0, .slice t (p).length u), (5, .slice b (n).length o), (17, .agg #[Vi 0, Vi 1, Vi 2, Vi 12]), (18, Vi s), (19, .bool (decide (s < 4)))] (fun ai => ?_))))
 refine c_seq (c_if (decide (s < 4)) R d (fun d => ?_) (fun d => ?_))
 · refine c_skip (k_then (c_seq (c_block (c_sp ?_))))
   obtain ⟨aa, a3, d⟩ := bind_some d
   refine x_index (xv := .agg #[Vi 0, Vi 1, Vi 2, Vi 12]) (yv := Vi s) (Vi aa) R R R R (reads_aindex Tryz.underlying97 tcell3 (xs := ([0, 1, 2, 12] : List Int)) R R a3) (x_u 1 [(7, Vi aa)] (x_ek (c_sp (x_u 2 [(22, .slice t (p).length u), (23, Vi aa)] ?_))))
   obtain ⟨a, B, d⟩ := bind_some d
   have D := planner_scheme_w t u p aa _ ag (fl [blk b, e]) (MS.fold (P := []) f) (h.sub fl1) B
   refine x_call 47 #[] #[] [.slice t (p).length u, Vi aa] _ R R R R D ?_
   rintro af bi ⟨k, O, rfl, ab, aQ, am, bc⟩
   clear D B
   refine inl1 ?_
   have j := Stp.call0 [blk b, e] [blk k] [blk k, blk b, e] ab am R
   replace h := h.step j
   replace m := m.step j ab nn2
   replace f := MS.call0 [blk k] [blk k, blk b, e] f ab aQ am R
   have E := FR.call0 [blk k, blk b] g.size am i R
   replace g := g.ext ab
   replace i := E
   clear E
   clear j
   refine x_u 4 [(21, .tuple #[.agg #[Vi a.1.1, Vi a.1.2.1, Vi a.1.2.2.1, Vi a.1.2.2.2], .agg #[Vi a.2.1.1, .slice k (a.2.1.2).length O], .bool a.2.2]), (25, .agg #[Vi a.1.1, Vi a.1.2.1, Vi a.1.2.2.1, Vi a.1.2.2.2]), (26, .agg #[Vi a.2.1.1, .slice k (a.2.1.2).length O]), (27, .bool a.2.2)] (x_alloc (z := .agg #[Vi 0, Vi 0, Vi 0, Vi 0]) R R (by kernel_rfl) (fun r a6 ao A ac be => ?_))
   replace A : a6.heap[r]? = some (.cells #[Vi 0, Vi 0, Vi 0, Vi 0] 48 (0, 0)) := A
   refine inl1 ?_
   have j := Stp.box (ls := [blk k, blk b, e]) ac ao
   replace h := h.step j
   replace m := m.step j ac nn2
   replace f := f.box ac ao A
   replace i := i.box g.size ao
   replace g := g.ext ac
   refine x_alloc (z := .agg #[Vi 0, .slice none 0 0]) R R (by kernel_rfl) (fun w a7 ap I Q bf => ?_)
   replace I : a7.heap[w]? = some (.cells #[Vi 0, .slice none 0 0] 52 (0, 0)) := I
   refine inl1 ?_
   have j := Stp.box (ls := [[r], blk k, blk b, e]) Q ap
   replace h := h.step j
   replace m := m.step j Q nn2
   replace A := Q.box A nn
   replace f := f.box Q ap I
   replace i := i.box g.size ap
   replace g := g.ext Q
   obtain ⟨a8, aZ, aL, S⟩ := store_boxagg 0 [Vi a.1.1, Vi a.1.2.1, Vi a.1.2.2.1, Vi a.1.2.2.2] #[Vi a.1.1, Vi a.1.2.1, Vi a.1.2.2.1, Vi a.1.2.2.2] tagg48 A R R R
   refine x_store a8 (xv := Vp r 0) (yv := .agg #[Vi a.1.1, Vi a.1.2.1, Vi a.1.2.2.1, Vi a.1.2.2.2]) R R R R aZ (inl1 ?_)
   have j := Stp.ev' (ls := [[w], [r], blk k, blk b, e]) S (mem_flat 1 R)
   replace h := h.step j
   replace m := m.step j S (f.apart 3 1 R R R)
   replace I := S.box I (f.apart 0 1 R R R _ mem1)
   replace f := f.ev S
   replace g := g.then S (fun q x => .inr (i.at 1 R q x))
   replace A := aL
   obtain ⟨a9, a0, bb, U⟩ := store_boxagg 0 [Vi a.2.1.1, .slice k (a.2.1.2).length O] #[Vi a.2.1.1, .slice k (a.2.1.2).length O] tagg52 I R R R
   refine x_store a9 (xv := Vp w 0) (yv := .agg #[Vi a.2.1.1, .slice k (a.2.1.2).length O]) R R R R a0 (inl1 ?_)
   have j := Stp.ev' (ls := [[w], [r], blk k, blk b, e]) U (mem_flat 0 R)
   replace h := h.step j
   replace m := m.step j U (f.apart 3 0 R R R)
   replace A := U.box A (f.apart 1 0 R R R _ mem1)
   replace f := f.ev U
   replace g := g.then U (fun q x => .inr (i.at 0 R q x))
   refine x_u 1 [(10, .bool a.2.2)] (x_ek (c_sp (x_u 1 [(28, .bool a.2.2)] (x_ek (c_nm [(0, .slice t (p).length u), (5, .slice b (n).length o), (8, Vp r 0), (17, .agg #[Vi 0, Vi 1, Vi 2, Vi 12]), (18, Vi s), (28, .bool a.2.2)] (fun ai => ?_))))))
   refine c_if a.2.2 R d (fun d => ?_) (fun d => ?_)
   · refine c_plain (x_u 1 [(29, .slice b (n).length o)] (x_load (xv := Vp r 0) (.agg #[Vi a.1.1, Vi a.1.2.1, Vi a.1.2.2.1, Vi a.1.2.2.2]) R R R (reads_boxagg 0 [Vi a.1.1, Vi a.1.2.1, Vi a.1.2.2.1, Vi a.1.2.2.2] tagg48 A nn R) (x_buildSlice (vs := [(0, .agg #[Vi a.1.1, Vi a.1.2.1, Vi a.1.2.2.1, Vi a.1.2.2.2])]) #[Vi a.1.1, Vi a.1.2.1, Vi a.1.2.2.1, Vi a.1.2.2.2] 48 R R R (by kernel_rfl) (fun ar aH aY ax ad bg => ?_))))
     refine inl1 ?_
     have aA := f
     have j := Stp.ext (ls := [[w], [r], blk k, blk b, e]) ad
     replace h := h.step j
     replace m := m.step j ad nn2
     replace f := f.ev ad
     replace g := g.ext ad
     have a2 : SlR (eIt4) aH (fl [[w], [r], blk k, blk b, e]) (Ad ar 0) 1 ([(a.1.1, a.1.2.1, a.1.2.2.1, a.1.2.2.2)] : List (Int × Int × Int × Int)) := ro_of_box aA aY ax R R (cells_at (cs := [Vi a.1.1, Vi a.1.2.1, Vi a.1.2.2.1, Vi a.1.2.2.2]) (CellsOf.cons (c := [Vi a.1.1, Vi a.1.2.1, Vi a.1.2.2.1, Vi a.1.2.2.2]) ⟨[Vi a.1.1], [Vi a.1.2.1, Vi a.1.2.2.1, Vi a.1.2.2.2], R, R, ⟨[Vi a.1.2.1], [Vi a.1.2.2.1, Vi a.1.2.2.2], R, R, ⟨[Vi a.1.2.2.1], [Vi a.1.2.2.2], R, R, R⟩⟩⟩ CellsOf.nil))
     clear ax aA
     have aO := guard_l d
     replace d := guard_r d
     obtain ⟨y, av, aq, a1, ak, an, bd, aG⟩ := own_appendN tel44 44 m (mem_flat 3 R) a2 aO
     refine x_builtin (vs := [.slice b (n).length o, .slice (Ad ar 0) (([(a.1.1, a.1.2.1, a.1.2.2.1, a.1.2.2.2)] : List (Int × Int × Int × Int))).length 1]) _ aq R R R R (run_value _ _ _ _ a1) (inl1 ?_)
     have j : Stp (fl [[w], [r], blk k, blk b, e]) aH (fl [[w], [r], blk k, blk y, e]) aq := Stp.upd 3 ak R (fun q x => (an q x).1)
     replace h := h.step j
     replace f : MS aq [[w], [r], blk k, blk y, e] := f.upd 3 ak R an
     have E : FR v.heap.size [[w], [r], blk k, blk y] := i.upd 3 R g.size (fun q x => (an q x).1)
     replace g := g.then ak (fun q x => .inr (i.at 3 R q x))
     replace i := E
     clear E
     replace m := aG (fl [[w], [r], blk k, blk y, e]) j.new
     clear aG
     refine x_u 1 [(5, .slice y ((n ++ ([(a.1.1, a.1.2.1, a.1.2.2.1, a.1.2.2.2)] : List (Int × Int × Int × Int)))).length av)] (x_end R (k_block (k_then (c_plain (x_u 2 [(33, Vi (i64.wrap (s + 1))), (18, Vi (i64.wrap (s + 1)))] (x_end R ?_))))))
     obtain rfl := some_inj d
     have F := f.pick [some 3, some 4] [blk y, e] R
     have C := pick_sub (ls := [[w], [r], blk k, blk y, e]) [some 3, some 4] [blk y, e] R
     replace h := h.sub C
     replace m := m.sub C
     replace f := F
     replace i := i.pick [some 3] [blk y] R
     clear F C
     exact k_then ⟨(K, (n ++ ([(a.1.1, a.1.2.1, a.1.2.2.1, a.1.2.2.2)] : List (Int × Int × Int × Int))), i64.wrap (s + 1), y, av), ⟨R, R, R, R, trivial⟩, ⟨J, g, f, i, h, m⟩, Nat.lt_succ_self _⟩
   refine c_skip (k_block (k_then (c_plain (x_u 2 [(33, Vi (i64.wrap (s + 1))), (18, Vi (i64.wrap (s + 1)))] (x_end R ?_)))))
   obtain rfl := some_inj d
   have F := f.pick [some 3, some 4] [blk b, e] R
   have C := pick_sub (ls := [[w], [r], blk k, blk b, e]) [some 3, some 4] [blk b, e] R
   replace h := h.sub C
   replace m := m.sub C
   replace f := F
   replace i := i.pick [some 3] [blk b] R
   clear F C
   exact k_then ⟨(K, n, i64.wrap (s + 1), b, o), ⟨R, R, R, R, trivial⟩, ⟨J, g, f, i, h, m⟩, Nat.lt_succ_self _⟩
 refine c_exit (k_then_exit ?_)
 obtain rfl := some_inj d
 have a4 := some_inj J
 subst a4
 replace d := aK
 refine k_then_exit (k_block_in (k_then (c_nm [(5, .slice b (n).length o)] (fun ai => ?_))))
 refine c_seq (c_sp (x_u 1 [(34, .slice b (n).length o)] (x_len (vs := [.slice b (n).length o]) (Vi ((n).length : Int)) R R R (reads_len tsl44 _ _ _ _ _) (x_u 1 [(36, .bool (((n).length : Int) == 0))] (x_ek (c_if (((n).length : Int) == 0) R d (fun d => ?_) (fun d => ?_)))))))
 · refine c_sp (x_u 2 [(2, .slice none 0 0), (3, Vi 15)] (x_ek (c_ret (k_then_ret (r_ret (r_vals [.slice none 0 0, Vi 15] ⟨R, R, trivial⟩ ?_))))))
   obtain rfl := some_inj d
   have Y := f.pick [none, some 1] [blk none, e] R
   have X := i.pick [none] [blk none] R
   exact ⟨none, 0, R, g, Y, X, OwnS.nil _ _ _ _⟩
 refine c_skip (k_then (c_sp (x_u 1 [(37, .slice b (n).length o)] ?_)))
 obtain ⟨ah, B, d⟩ := bind_some d
 have F : MS ag ([blk b] ++ [e]) := f.pick [some 0, some 1] _ R
 have aE : ∀ L ∈ fl ([blk b] ++ [e]), L ∈ fl [blk b, e] := pick_sub [some 0, some 1] _ R
 have aD : ∀ L ∈ fl ([blk b] ++ [(fl [e])]), L ∈ fl [blk b, e] := fun L B => aE L (fl_unfold L B)
 have D := slices_SortStableFunc_humpyard_api_Scheme_humpyard_api_Scheme__w b o n _ ag (fl [e]) (F.fold (P := [blk b])) (m.sub aD) B
 refine x_call 48 #[] #[] [.slice b (n).length o, (.func (.func 49) #[] #[])] _ R R R R D ?_
 rintro af ba ⟨rfl, ay, aX, aS, aN, aB⟩
 clear D B
 refine inl1 ?_
 have aC : MS ag ([blk b] ++ [e]) := f.pick [some 0, some 1] _ R
 replace f : MS ba [blk b, e] := (MS.call (P := [blk b]) (R := [e]) (res := []) (par := [blk b]) aC ay aS aN aB).pick [some 0, some 1] _ R
 have aw : ∀ q ∈ fl [blk b], v.heap.size ≤ q := FR.mem (ls := [blk b]) (i.pick [some 0] _ R)
 have E : FR v.heap.size [blk b] := (FR.cons (fun q x => (aB.at 0 R q x).elim (fun d => aw q d) (fun d => Nat.le_trans g.size d)) (FR.nil _))
 replace g := g.then ay (fun q x => .inr (aw q x))
 replace i := E
 clear E
 replace m := OwnS.plain (M' := fl [blk b, e]) (plain_prod (plain_int _) (plain_prod (plain_int _) (plain_prod (plain_int _) (plain_int _)))) aX
 clear F aD aE aC j
 have az := guard_l d
 replace d := guard_r d
 have aF : (Value.slice b (n).length o) = (Value.slice b (ah).length o) := by first | (rw [az]; done) | simp only [az]
 try rw [aF]
 clear aF
 refine x_ek (c_sp (x_u 3 [(39, .slice b (ah).length o), (2, .slice b (ah).length o), (3, Vi 0)] (x_ek (c_ret (r_ret (r_vals [.slice b (ah).length o, Vi 0] ⟨R, R, trivial⟩ ?_))))))
 obtain rfl := some_inj d
 have Y := f.pick [some 0, some 1] [blk b, e] R
 have C := pick_sub (ls := [blk b, e]) [some 0, some 1] [blk b, e] R
 have X := i.pick [some 0] [blk b] R
 exact ⟨b, o, R, g, Y, X, m.sub C⟩
def planner_sheet (f : List (Int × Int × Int × Int)) (c : Int) (g : List Int) : Option ((((List (Int × Int × Int × Int)) × Int) × ((Int × (List Int)) × (List Int)) × (List Int)) × (List Int) × Int) :=
((slices_Clone_humpyard_api_Item_humpyard_api_Item_ f).bind fun e =>
((certificate_Make e c).bind fun a =>
(if (a.2 != 0) = true then
some ((([], 0), ((0, []), []), []), [], a.2)
else
((rollin_Loads e c a.1.1.1 a.1.1.2).bind fun d =>
(if (d.2 != 0) = true then
some ((([], 0), ((0, []), []), []), [], d.2)
else
((assign_Match d.1 g).bind fun b =>
(if (b.2.2 != 0) = true then
some ((([], 0), ((0, []), []), []), b.2.1, b.2.2)
else
some (((e, c), ((a.1.1.1, a.1.1.2), a.1.2), b.1), [], 0))))))))
theorem planner_sheet_w (ao : Option Addr) (ap : Nat) (am : List (Int × Int × Int × Int)) (o : Int) (ac : Option Addr) (ae : Nat) (aa : List Int) (D : (((List (Int × Int × Int × Int)) × Int) × ((Int × (List Int)) × (List Int)) × (List Int)) × (List Int) × Int) (ab : World) (c : List Nat) (g : MS ab [c]) (aL : SlR (eIt4) ab (fl [c]) ao ap am) (A : SlR (eInt .i64) ab (fl [c]) ac ae aa) (u : planner_sheet am o aa = some D) : CallVC Tryz.prog 55 [Vl ao am ap, Vi o, Vl ac aa ae] ab fun ay an => ∃ (O : Option Addr), ∃ (aN : Nat), ∃ (Q : Option Addr), ∃ (aO : Nat), ∃ (S : Option Addr), ∃ (aQ : Nat), ∃ (U : Option Addr), ∃ (aS : Nat), ∃ (X : Option Addr), ∃ (aU : Nat), ay = .tuple #[.agg #[Vl O D.1.1.1 aN, Vi D.1.1.2, Vi D.1.2.1.1.1, Vl Q D.1.2.1.1.2 aO, Vl S D.1.2.1.2 aQ, Vl U D.1.2.2 aS], Vl X D.2.1 aU, Vi D.2.2] ∧ Ev [] ab an ∧ MS an [blk O, blk Q, blk S, blk U, blk X, c] ∧ FR ab.heap.size [blk O, blk Q, blk S, blk U, blk X] ∧ OwnS (eIt4) 76 an (fl [blk O, blk Q, blk S, blk U, blk X, c]) O aN D.1.1.1 ∧ OwnS (eInt .i64) 3 an (fl [blk O, blk Q, blk S, blk U, blk X, c]) Q aO D.1.2.1.1.2 ∧ OwnS (eInt .i64) 3 an (fl [blk O, blk Q, blk S, blk U, blk X, c]) S aQ D.1.2.1.2 ∧ OwnS (eInt .i64) 3 an (fl [blk O, blk Q, blk S, blk U, blk X, c]) U aS D.1.2.2 ∧ OwnS (eInt .i64) 3 an (fl [blk O, blk Q, blk S, blk U, blk X, c]) X aU D.2.1 := by
 refine calls_vc hmx Tryz.func55 (by kernel_rfl) R (rs := [.cell 6 67, .tmp 7, .tmp 8]) R (by kernel_rfl) (args := [Vl ao am ap, Vi o, Vl ac aa ae]) R ?_
 have j : Ev [] ab ab := Ev.refl _ _
 have q : FR ab.heap.size [] := FR.nil _
 refine c_sp (x_alloc (z := .agg #[.slice none 0 0, Vi 0, Vi 0, .slice none 0 0, .slice none 0 0, .slice none 0 0]) R R (by kernel_rfl) (fun d a1 aJ l aC bq => ?_))
 replace l : a1.heap[d]? = some (.cells #[.slice none 0 0, Vi 0, Vi 0, .slice none 0 0, .slice none 0 0, .slice none 0 0] 67 (0, 0)) := l
 refine inl1 ?_
 have i := Stp.box (ls := [c]) aC aJ
 replace aL := aL.step i
 replace A := A.step i
 replace g := g.box aC aJ l
 replace q := q.box j.size aJ
 replace j := j.ext aC
 refine x_u 2 [(7, .slice none 0 0), (8, Vi 0)] (x_ek (c_sp (x_u 1 [(15, Vl ao am ap)] ?_)))
 obtain ⟨t, L, u⟩ := bind_some u
 have J := slices_Clone_humpyard_api_Item_humpyard_api_Item__w ao ap am _ a1 (fl [[d], c]) (MS.fold (P := []) g) (aL.sub fl1) L
 refine x_call 87 #[] #[] [Vl ao am ap] _ R R R R J ?_
 rintro ay bu ⟨a, r, rfl, aA, bb, aH, v⟩
 clear J L
 refine inl1 ?_
 have i := Stp.call0 [[d], c] [blk a] [blk a, [d], c] aA aH R
 replace A := A.step i
 replace l := aA.box l nn
 replace g := MS.call0 [blk a] [blk a, [d], c] g aA bb aH R
 have K := FR.call0 [blk a, [d]] j.size aH q R
 replace j := j.ext aA
 replace q := K
 clear K
 replace v := OwnS.plain (M' := fl [blk a, [d], c]) (plain_prod (plain_int _) (plain_prod (plain_int _) (plain_prod (plain_int _) (plain_int _)))) v
 clear i
 refine x_u 1 [(17, Vi o)] (x_build (vs := [(0, Vl a t r), (1, Vi o)]) (.agg #[Vl a t r, Vi o]) R R R (fun _ _ => by kernel_rfl) ?_)
 refine x_alloc (z := .agg #[.slice none 0 0, Vi 0]) R R (by kernel_rfl) (fun h bo aK x av br => ?_)
 replace x : bo.heap[h]? = some (.cells #[.slice none 0 0, Vi 0] 50 (0, 0)) := x
 refine inl1 ?_
 have i := Stp.box (ls := [blk a, [d], c]) av aK
 replace A := A.step i
 replace l := av.box l nn
 replace v := v.step i av nn2
 replace g := g.box av aK x
 replace q := q.box j.size aK
 replace j := j.ext av
 obtain ⟨aZ, bc, a2, au⟩ := store_boxagg 0 [Vl a t r, Vi o] #[Vl a t r, Vi o] tagg50 x R R R
 refine x_store aZ (xv := Vp h 0) (yv := .agg #[Vl a t r, Vi o]) R R R R bc (inl1 ?_)
 have i := Stp.ev' (ls := [[h], blk a, [d], c]) au (mem_flat 0 R)
 replace A := A.step i
 replace l := au.box l (g.apart 2 0 R R R _ mem1)
 replace v := v.step i au (g.apart 1 0 R R R)
 replace g := g.ev au
 replace j := j.then au (fun G H => .inr (q.at 0 R G H))
 replace x := a2
 refine x_ek (c_sp (x_load (xv := Vp h 0) (.agg #[Vl a t r, Vi o]) R R R (reads_boxagg 0 [Vl a t r, Vi o] tagg50 x nn R) ?_))
 obtain ⟨b, L, u⟩ := bind_some u
 have ah := g.pick [some 0, some 2, some 3] ([] ++ [[h], [d], c]) R
 have N := sub_fold (ls := [[h], blk a, [d], c]) [some 0, some 2, some 3] [[h], [d], c] R
 have J := certificate_Make_w a r t o _ aZ (fl [[h], [d], c]) (MS.fold (P := []) ah) (v.ro N (pick_outf g 1 R [some 0, some 2, some 3] [[h], [d], c] R R)) L
 refine x_call 21 #[] #[] [.agg #[Vl a t r, Vi o]] _ R R R R J ?_
 rintro ay bs ⟨f, w, e, B, rfl, aq, a8, aE, C, F⟩
 clear J L
 refine inl1 ?_
 have i := Stp.call0 [[h], blk a, [d], c] [blk f, blk e] [blk f, blk e, [h], blk a, [d], c] aq aE R
 replace A := A.step i
 replace l := aq.box l nn
 replace v := v.step i aq nn2
 replace x := aq.box x nn
 replace g := MS.call0 [blk f, blk e] [blk f, blk e, [h], blk a, [d], c] g aq a8 aE R
 have K := FR.call0 [blk f, blk e, [h], blk a, [d]] j.size aE q R
 replace j := j.ext aq
 replace q := K
 clear K
 replace C := OwnS.plain (M' := fl [blk f, blk e, [h], blk a, [d], c]) (plain_int _) C
 replace F := OwnS.plain (M' := fl [blk f, blk e, [h], blk a, [d], c]) (plain_int _) F
 clear ah N i
 refine x_u 3 [(19, .tuple #[.agg #[Vi b.1.1.1, Vl f b.1.1.2 w, Vl e b.1.2 B], Vi b.2]), (22, .agg #[Vi b.1.1.1, Vl f b.1.1.2 w, Vl e b.1.2 B]), (23, Vi b.2)] (x_alloc (z := .agg #[Vi 0, .slice none 0 0, .slice none 0 0]) R R (by kernel_rfl) (fun k bi aI I af bp => ?_))
 replace I : bi.heap[k]? = some (.cells #[Vi 0, .slice none 0 0, .slice none 0 0] 54 (0, 0)) := I
 refine inl1 ?_
 have i := Stp.box (ls := [blk f, blk e, [h], blk a, [d], c]) af aI
 replace A := A.step i
 replace l := af.box l nn
 replace v := v.step i af nn2
 replace x := af.box x nn
 replace C := C.step i af nn2
 replace F := F.step i af nn2
 replace g := g.box af aI I
 replace q := q.box j.size aI
 replace j := j.ext af
 obtain ⟨a0, bd, a3, ag⟩ := store_boxagg 0 [Vi b.1.1.1, Vl f b.1.1.2 w, Vl e b.1.2 B] #[Vi b.1.1.1, Vl f b.1.1.2 w, Vl e b.1.2 B] tagg54 I R R R
 refine x_store a0 (xv := Vp k 0) (yv := .agg #[Vi b.1.1.1, Vl f b.1.1.2 w, Vl e b.1.2 B]) R R R R bd (inl1 ?_)
 have i := Stp.ev' (ls := [[k], blk f, blk e, [h], blk a, [d], c]) ag (mem_flat 0 R)
 replace A := A.step i
 replace l := ag.box l (g.apart 5 0 R R R _ mem1)
 replace v := v.step i ag (g.apart 4 0 R R R)
 replace x := ag.box x (g.apart 3 0 R R R _ mem1)
 replace C := C.step i ag (g.apart 1 0 R R R)
 replace F := F.step i ag (g.apart 2 0 R R R)
 replace g := g.ev ag
 replace j := j.then ag (fun G H => .inr (q.at 0 R G H))
 replace I := a3
 refine x_u 1 [(11, Vi b.2)] (x_ek (c_nm [(2, Vl ac aa ae), (6, Vp d 0), (9, Vp h 0), (10, Vp k 0), (11, Vi b.2)] (fun aB => ?_)))
 refine c_seq (c_sp (x_u 2 [(24, Vi b.2), (25, .bool (b.2 != 0))] (x_ek (c_if (b.2 != 0) R u (fun u => ?_) (fun u => ?_)))))
 · refine c_sp (x_build (vs := []) (.agg #[.slice none 0 0, Vi 0, Vi 0, .slice none 0 0, .slice none 0 0, .slice none 0 0]) R R R (fun _ _ => by kernel_rfl) ?_)
   refine x_u 1 [(27, Vi b.2)] ?_
   obtain ⟨bj, be, a4, aX⟩ := store_boxagg 0 [.slice none 0 0, Vi 0, Vi 0, .slice none 0 0, .slice none 0 0, .slice none 0 0] #[.slice none 0 0, Vi 0, Vi 0, .slice none 0 0, .slice none 0 0, .slice none 0 0] tagg67 l R R R
   refine x_store bj (xv := Vp d 0) (yv := .agg #[.slice none 0 0, Vi 0, Vi 0, .slice none 0 0, .slice none 0 0, .slice none 0 0]) R R R R be (inl1 ?_)
   replace g := g.ev aX
   replace j := j.then aX (fun G H => .inr (q.at 5 R G H))
   replace l := a4
   refine x_u 2 [(7, .slice none 0 0), (8, Vi b.2)] (x_ek (c_ret (k_then_ret (r_ret (r_vals [.agg #[.slice none 0 0, Vi 0, Vi 0, .slice none 0 0, .slice none 0 0, .slice none 0 0], .slice none 0 0, Vi b.2] ⟨⟨_, R, loadVar_of_reads (reads_boxagg (Mo := []) 0 [.slice none 0 0, Vi 0, Vi 0, .slice none 0 0, .slice none 0 0, .slice none 0 0] tagg67 l nn R)⟩, R, R, trivial⟩ ?_)))))
   obtain rfl := some_inj u
   have al := g.pick [none, none, none, none, none, some 6] [blk none, blk none, blk none, blk none, blk none, c] R
   have ak := q.pick [none, none, none, none, none] [blk none, blk none, blk none, blk none, blk none] R
   exact ⟨none, 0, none, 0, none, 0, none, 0, none, 0, R, j, al, ak, OwnS.nil _ _ _ _, OwnS.nil _ _ _ _, OwnS.nil _ _ _ _, OwnS.nil _ _ _ _, OwnS.nil _ _ _ _⟩
 refine c_skip (k_then (c_sp (x_load (xv := Vp h 0) (.agg #[Vl a t r, Vi o]) R R R (reads_boxagg 0 [Vl a t r, Vi o] tagg50 x nn R) (x_fieldAddr (xv := Vp k 0) (Vp k 0) R R R (reads_field tfld54_0 _ _) (x_load (xv := Vp k 0) (.agg #[Vi b.1.1.1, Vl f b.1.1.2 w]) R R R (reads_boxagg 0 [Vi b.1.1.1, Vl f b.1.1.2 w] tagg52 I nn R) ?_)))))
 obtain ⟨y, L, u⟩ := bind_some u
 have ah := g.pick [some 0, some 2, some 3, some 5, some 6] ([] ++ [[k], blk e, [h], [d], c]) R
 have N := sub_fold (ls := [[k], blk f, blk e, [h], blk a, [d], c]) [some 0, some 2, some 3, some 5, some 6] [[k], blk e, [h], [d], c] R
 have J := rollin_Loads_w a r t o b.1.1.1 f w b.1.1.2 _ a0 (fl [[k], blk e, [h], [d], c]) (MS.fold (P := []) ah) (v.ro N (pick_outf g 4 R [some 0, some 2, some 3, some 5, some 6] [[k], blk e, [h], [d], c] R R)) (C.ro N (pick_outf g 1 R [some 0, some 2, some 3, some 5, some 6] [[k], blk e, [h], [d], c] R R)) L
 refine x_call 39 #[] #[] [.agg #[Vl a t r, Vi o], .agg #[Vi b.1.1.1, Vl f b.1.1.2 w]] _ R R R R J ?_
 rintro ay bk ⟨p, ai, rfl, Y, a9, aF, aD⟩
 clear J L
 refine inl1 ?_
 have i := Stp.call0 [[k], blk f, blk e, [h], blk a, [d], c] [blk p] [blk p, [k], blk f, blk e, [h], blk a, [d], c] Y aF R
 replace A := A.step i
 replace l := Y.box l nn
 replace v := v.step i Y nn2
 replace x := Y.box x nn
 replace C := C.step i Y nn2
 replace F := F.step i Y nn2
 replace I := Y.box I nn
 replace g := MS.call0 [blk p] [blk p, [k], blk f, blk e, [h], blk a, [d], c] g Y a9 aF R
 have K := FR.call0 [blk p, [k], blk f, blk e, [h], blk a, [d]] j.size aF q R
 replace j := j.ext Y
 replace q := K
 clear K
 replace aD := OwnS.plain (M' := fl [blk p, [k], blk f, blk e, [h], blk a, [d], c]) (plain_int _) aD
 clear ah N i
 refine x_u 5 [(28, .tuple #[Vl p y.1 ai, Vi y.2]), (33, Vl p y.1 ai), (34, Vi y.2), (12, Vl p y.1 ai), (11, Vi y.2)] (x_ek (c_seq (c_sp (x_u 2 [(35, Vi y.2), (36, .bool (y.2 != 0))] (x_ek (c_nm [(2, Vl ac aa ae), (6, Vp d 0), (9, Vp h 0), (10, Vp k 0), (11, Vi y.2), (12, Vl p y.1 ai), (36, .bool (y.2 != 0))] (fun aB => ?_)))))))
 refine c_if (y.2 != 0) R u (fun u => ?_) (fun u => ?_)
 · refine c_sp (x_build (vs := []) (.agg #[.slice none 0 0, Vi 0, Vi 0, .slice none 0 0, .slice none 0 0, .slice none 0 0]) R R R (fun _ _ => by kernel_rfl) ?_)
   refine x_u 1 [(38, Vi y.2)] ?_
   obtain ⟨bl, bf, a5, aY⟩ := store_boxagg 0 [.slice none 0 0, Vi 0, Vi 0, .slice none 0 0, .slice none 0 0, .slice none 0 0] #[.slice none 0 0, Vi 0, Vi 0, .slice none 0 0, .slice none 0 0, .slice none 0 0] tagg67 l R R R
   refine x_store bl (xv := Vp d 0) (yv := .agg #[.slice none 0 0, Vi 0, Vi 0, .slice none 0 0, .slice none 0 0, .slice none 0 0]) R R R R bf (inl1 ?_)
   replace g := g.ev aY
   replace j := j.then aY (fun G H => .inr (q.at 6 R G H))
   replace l := a5
   refine x_u 2 [(7, .slice none 0 0), (8, Vi y.2)] (x_ek (c_ret (k_then_ret (r_ret (r_vals [.agg #[.slice none 0 0, Vi 0, Vi 0, .slice none 0 0, .slice none 0 0, .slice none 0 0], .slice none 0 0, Vi y.2] ⟨⟨_, R, loadVar_of_reads (reads_boxagg (Mo := []) 0 [.slice none 0 0, Vi 0, Vi 0, .slice none 0 0, .slice none 0 0, .slice none 0 0] tagg67 l nn R)⟩, R, R, trivial⟩ ?_)))))
   obtain rfl := some_inj u
   have al := g.pick [none, none, none, none, none, some 7] [blk none, blk none, blk none, blk none, blk none, c] R
   have ak := q.pick [none, none, none, none, none] [blk none, blk none, blk none, blk none, blk none] R
   exact ⟨none, 0, none, 0, none, 0, none, 0, none, 0, R, j, al, ak, OwnS.nil _ _ _ _, OwnS.nil _ _ _ _, OwnS.nil _ _ _ _, OwnS.nil _ _ _ _, OwnS.nil _ _ _ _⟩
 refine c_skip (k_then (c_sp (x_u 2 [(40, Vl p y.1 ai), (41, Vl ac aa ae)] ?_)))
 obtain ⟨m, L, u⟩ := bind_some u
 have ah := g.pick [some 1, some 2, some 3, some 4, some 5, some 6, some 7] ([] ++ [[k], blk f, blk e, [h], blk a, [d], c]) R
 have N := sub_fold (ls := [blk p, [k], blk f, blk e, [h], blk a, [d], c]) [some 1, some 2, some 3, some 4, some 5, some 6, some 7] [[k], blk f, blk e, [h], blk a, [d], c] R
 have J := assign_Match_w p ai y.1 ac ae aa _ bk (fl [[k], blk f, blk e, [h], blk a, [d], c]) (MS.fold (P := []) ah) (aD.ro N (pick_outf g 0 R [some 1, some 2, some 3, some 4, some 5, some 6, some 7] [[k], blk f, blk e, [h], blk a, [d], c] R R)) (A.sub N) L
 refine x_call 88 #[] #[] [Vl p y.1 ai, Vl ac aa ae] _ R R R R J ?_
 rintro ay bt ⟨n, E, s, ad, rfl, Z, ba, aG, aw, ax⟩
 clear J L
 refine inl1 ?_
 have i := Stp.call0 [blk p, [k], blk f, blk e, [h], blk a, [d], c] [blk n, blk s] [blk n, blk s, blk p, [k], blk f, blk e, [h], blk a, [d], c] Z aG R
 replace l := Z.box l nn
 replace v := v.step i Z nn2
 replace x := Z.box x nn
 replace C := C.step i Z nn2
 replace F := F.step i Z nn2
 replace I := Z.box I nn
 replace g := MS.call0 [blk n, blk s] [blk n, blk s, blk p, [k], blk f, blk e, [h], blk a, [d], c] g Z ba aG R
 have K := FR.call0 [blk n, blk s, blk p, [k], blk f, blk e, [h], blk a, [d]] j.size aG q R
 replace j := j.ext Z
 replace q := K
 clear K
 replace aw := OwnS.plain (M' := fl [blk n, blk s, blk p, [k], blk f, blk e, [h], blk a, [d], c]) (plain_int _) aw
 replace ax := OwnS.plain (M' := fl [blk n, blk s, blk p, [k], blk f, blk e, [h], blk a, [d], c]) (plain_int _) ax
 clear ah N i
 refine x_u 7 [(39, .tuple #[Vl n m.1 E, Vl s m.2.1 ad, Vi m.2.2]), (43, Vl n m.1 E), (44, Vl s m.2.1 ad), (45, Vi m.2.2), (13, Vl n m.1 E), (14, Vl s m.2.1 ad), (11, Vi m.2.2)] (x_ek (c_seq (c_sp (x_u 2 [(46, Vi m.2.2), (47, .bool (m.2.2 != 0))] (x_ek (c_if (m.2.2 != 0) R u (fun u => ?_) (fun u => ?_)))))))
 · refine c_sp (x_build (vs := []) (.agg #[.slice none 0 0, Vi 0, Vi 0, .slice none 0 0, .slice none 0 0, .slice none 0 0]) R R R (fun _ _ => by kernel_rfl) ?_)
   refine x_u 2 [(49, Vl s m.2.1 ad), (50, Vi m.2.2)] ?_
   obtain ⟨bm, bg, a6, az⟩ := store_boxagg 0 [.slice none 0 0, Vi 0, Vi 0, .slice none 0 0, .slice none 0 0, .slice none 0 0] #[.slice none 0 0, Vi 0, Vi 0, .slice none 0 0, .slice none 0 0, .slice none 0 0] tagg67 l R R R
   refine x_store bm (xv := Vp d 0) (yv := .agg #[.slice none 0 0, Vi 0, Vi 0, .slice none 0 0, .slice none 0 0, .slice none 0 0]) R R R R bg (inl1 ?_)
   have i := Stp.ev' (ls := [blk n, blk s, blk p, [k], blk f, blk e, [h], blk a, [d], c]) az (mem_flat 8 R)
   replace ax := ax.step i az (g.apart 1 8 R R R)
   replace g := g.ev az
   replace j := j.then az (fun G H => .inr (q.at 8 R G H))
   replace l := a6
   refine x_u 2 [(7, Vl s m.2.1 ad), (8, Vi m.2.2)] (x_ek (c_nm [(6, Vp d 0), (7, Vl s m.2.1 ad), (8, Vi m.2.2)] (fun aB => ?_)))
   refine c_ret (k_then_ret (r_ret (r_vals [.agg #[.slice none 0 0, Vi 0, Vi 0, .slice none 0 0, .slice none 0 0, .slice none 0 0], Vl s m.2.1 ad, Vi m.2.2] ⟨⟨_, R, loadVar_of_reads (reads_boxagg (Mo := []) 0 [.slice none 0 0, Vi 0, Vi 0, .slice none 0 0, .slice none 0 0, .slice none 0 0] tagg67 l nn R)⟩, R, R, trivial⟩ ?_)))
   obtain rfl := some_inj u
   have al := g.pick [none, none, none, none, some 1, some 9] [blk none, blk none, blk none, blk none, blk s, c] R
   have ar := pick_sub (ls := [blk n, blk s, blk p, [k], blk f, blk e, [h], blk a, [d], c]) [none, none, none, none, some 1, some 9] [blk none, blk none, blk none, blk none, blk s, c] R
   have ak := q.pick [none, none, none, none, some 1] [blk none, blk none, blk none, blk none, blk s] R
   exact ⟨none, 0, none, 0, none, 0, none, 0, s, ad, R, j, al, ak, OwnS.nil _ _ _ _, OwnS.nil _ _ _ _, OwnS.nil _ _ _ _, OwnS.nil _ _ _ _, ax.sub ar⟩
 refine c_skip (k_then (c_nm [(6, Vp d 0), (9, Vp h 0), (10, Vp k 0), (13, Vl n m.1 E)] (fun aB => ?_)))
 refine c_sp (x_load (xv := Vp h 0) (.agg #[Vl a t r, Vi o]) R R R (reads_boxagg 0 [Vl a t r, Vi o] tagg50 x nn R) (x_load (xv := Vp k 0) (.agg #[Vi b.1.1.1, Vl f b.1.1.2 w, Vl e b.1.2 B]) R R R (reads_boxagg 0 [Vi b.1.1.1, Vl f b.1.1.2 w, Vl e b.1.2 B] tagg54 I nn R) (x_u 1 [(53, Vl n m.1 E)] (x_build (vs := [(0, .agg #[Vl a t r, Vi o]), (1, .agg #[Vi b.1.1.1, Vl f b.1.1.2 w, Vl e b.1.2 B]), (2, Vl n m.1 E)]) (.agg #[Vl a t r, Vi o, Vi b.1.1.1, Vl f b.1.1.2 w, Vl e b.1.2 B, Vl n m.1 E]) R R R (fun _ _ => by kernel_rfl) ?_))))
 obtain ⟨bn, bh, a7, aj⟩ := store_boxagg 0 [Vl a t r, Vi o, Vi b.1.1.1, Vl f b.1.1.2 w, Vl e b.1.2 B, Vl n m.1 E] #[Vl a t r, Vi o, Vi b.1.1.1, Vl f b.1.1.2 w, Vl e b.1.2 B, Vl n m.1 E] tagg67 l R R R
 refine x_store bn (xv := Vp d 0) (yv := .agg #[Vl a t r, Vi o, Vi b.1.1.1, Vl f b.1.1.2 w, Vl e b.1.2 B, Vl n m.1 E]) R R R R bh (inl1 ?_)
 have i := Stp.ev' (ls := [blk n, blk s, blk p, [k], blk f, blk e, [h], blk a, [d], c]) aj (mem_flat 8 R)
 replace v := v.step i aj (g.apart 7 8 R R R)
 replace C := C.step i aj (g.apart 4 8 R R R)
 replace F := F.step i aj (g.apart 5 8 R R R)
 replace aw := aw.step i aj (g.apart 0 8 R R R)
 replace g := g.ev aj
 replace j := j.then aj (fun G H => .inr (q.at 8 R G H))
 replace l := a7
 refine x_u 2 [(7, .slice none 0 0), (8, Vi 0)] (x_ek (c_ret (r_ret (r_vals [.agg #[Vl a t r, Vi o, Vi b.1.1.1, Vl f b.1.1.2 w, Vl e b.1.2 B, Vl n m.1 E], .slice none 0 0, Vi 0] ⟨⟨_, R, loadVar_of_reads (reads_boxagg (Mo := []) 0 [Vl a t r, Vi o, Vi b.1.1.1, Vl f b.1.1.2 w, Vl e b.1.2 B, Vl n m.1 E] tagg67 l nn R)⟩, R, R, trivial⟩ ?_))))
 obtain rfl := some_inj u
 have al := g.pick [some 7, some 4, some 5, some 0, none, some 9] [blk a, blk f, blk e, blk n, blk none, c] R
 have ar := pick_sub (ls := [blk n, blk s, blk p, [k], blk f, blk e, [h], blk a, [d], c]) [some 7, some 4, some 5, some 0, none, some 9] [blk a, blk f, blk e, blk n, blk none, c] R
 have ak := q.pick [some 7, some 4, some 5, some 0, none] [blk a, blk f, blk e, blk n, blk none] R
 exact ⟨a, r, f, w, e, B, n, E, none, 0, R, j, al, ak, v.sub ar, C.sub ar, F.sub ar, aw.sub ar, OwnS.nil _ _ _ _⟩
def planner_Plan_L10 (e : List (Int × Int × Int × Int)) (f : List Int) (d : (List (Int × Int × Int × Int)) × Int) (g : (List Int) × Int) : Option (Step ((List Int) × Int) (((List (Int × Int × Int × Int)) × Int × Int × (List Int) × (List Int) × (List Int) × Int) ⊕ (List Int))) :=
match g with
| (c, b) =>
(if (decide (b < ((d.1).length : Int))) = true then
((idx d.1 b).bind fun h =>
((planner_sheet e h.1 f).bind fun a =>
(if (a.2.2 == 0) = true then
some (.done (.inl (a.1.1.1, a.1.1.2, a.1.2.1.1.1, a.1.2.1.1.2, a.1.2.1.2, a.1.2.2, 0)))
else
(if (a.2.2 == 14) = true then
(if (b == 0) = true then
some (.next (a.2.1, i64.wrap (b + 1)))
else
some (.next (c, i64.wrap (b + 1))))
else
some (.done (.inl (([] : List (Int × Int × Int × Int)), 0, 0, ([] : List Int), ([] : List Int), ([] : List Int), a.2.2)))))))
else
some (.done (.inr c)))
def planner_Plan (b : List (Int × Int × Int × Int)) (k : List Int) : Option ((((List (Int × Int × Int × Int)) × Int) × ((Int × (List Int)) × (List Int)) × (List Int)) × (List Int) × Int) :=
((planner_Schemes b).bind fun a =>
(if (a.2 != 0) = true then
some ((([], 0), ((0, []), []), []), [], a.2)
else
((loop (planner_Plan_L10 b k a) (([] : List Int), 0)).bind fun c => match c with
| (.inl (e, i, j, f, g, h, l)) => some (((e, i), ((j, f), g), h), [], l)
| (.inr d) => some ((([], 0), ((0, []), []), []), d, 14))))
theorem planner_Plan_w (F : Option Addr) (G : Nat) (D : List (Int × Int × Int × Int)) (S : Option Addr) (Y : Nat) (N : List Int) (H : (((List (Int × Int × Int × Int)) × Int) × ((Int × (List Int)) × (List Int)) × (List Int)) × (List Int) × Int) (ac : World) (d : List Nat) (f : MS ac [d]) (v : SlR (eIt4) ac (fl [d]) F G D) (w : SlR (eInt .i64) ac (fl [d]) S Y N) (b : planner_Plan D N = some H) : CallVC Tryz.prog 25 [Vl F D G, Vl S N Y] ac fun a3 E => ∃ (ad : Option Addr), ∃ (a4 : Nat), ∃ (ae : Option Addr), ∃ (a5 : Nat), ∃ (af : Option Addr), ∃ (a6 : Nat), ∃ (ag : Option Addr), ∃ (a7 : Nat), ∃ (ah : Option Addr), ∃ (a8 : Nat), a3 = .tuple #[.agg #[Vl ad H.1.1.1 a4, Vi H.1.1.2, Vi H.1.2.1.1.1, Vl ae H.1.2.1.1.2 a5, Vl af H.1.2.1.2 a6, Vl ag H.1.2.2 a7], Vl ah H.2.1 a8, Vi H.2.2] ∧ Ev [] ac E ∧ MS E [blk ad, blk ae, blk af, blk ag, blk ah, d] ∧ FR ac.heap.size [blk ad, blk ae, blk af, blk ag, blk ah] ∧ OwnS (eIt4) 76 E (fl [blk ad, blk ae, blk af, blk ag, blk ah, d]) ad a4 H.1.1.1 ∧ OwnS (eInt .i64) 3 E (fl [blk ad, blk ae, blk af, blk ag, blk ah, d]) ae a5 H.1.2.1.1.2 ∧ OwnS (eInt .i64) 3 E (fl [blk ad, blk ae, blk af, blk ag, blk ah, d]) af a6 H.1.2.1.2 ∧ OwnS (eInt .i64) 3 E (fl [blk ad, blk ae, blk af, blk ag, blk ah, d]) ag a7 H.1.2.2 ∧ OwnS (eInt .i64) 3 E (fl [blk ad, blk ae, blk af, blk ag, blk ah, d]) ah a8 H.2.1 := by
 refine calls_vc hmx Tryz.func25 (by kernel_rfl) R (rs := [.cell 4 67, .tmp 5, .tmp 6]) R (by kernel_rfl) (args := [Vl F D G, Vl S N Y]) R ?_
 have r : Ev [] ac ac := Ev.refl _ _
 have p : FR ac.heap.size [] := FR.nil _
 refine c_sp (x_alloc (z := .agg #[.slice none 0 0, Vi 0, Vi 0, .slice none 0 0, .slice none 0 0, .slice none 0 0]) R R (by kernel_rfl) (fun c bc a2 o aQ bK => ?_))
 replace o : bc.heap[c]? = some (.cells #[.slice none 0 0, Vi 0, Vi 0, .slice none 0 0, .slice none 0 0, .slice none 0 0] 67 (0, 0)) := o
 refine inl1 ?_
 have g := Stp.box (ls := [d]) aQ a2
 replace v := v.step g
 replace w := w.step g
 replace f := f.box aQ a2 o
 replace p := p.box r.size a2
 replace r := r.ext aQ
 refine x_u 2 [(5, .slice none 0 0), (6, Vi 0)] (x_ek (c_sp (x_u 1 [(16, Vl F D G)] ?_)))
 obtain ⟨u, aH, b⟩ := bind_some b
 have aE := planner_Schemes_w F G D _ bc (fl [[c], d]) (MS.fold (P := []) f) (v.sub fl1) aH
 refine x_call 20 #[] #[] [Vl F D G] _ R R R R aE ?_
 rintro a3 bd ⟨e, X, rfl, aL, bo, aX, x⟩
 clear aE aH
 refine inl1 ?_
 have g := Stp.call0 [[c], d] [blk e] [blk e, [c], d] aL aX R
 replace v := v.step g
 replace w := w.step g
 replace o := aL.box o nn
 replace f := MS.call0 [blk e] [blk e, [c], d] f aL bo aX R
 have aF := FR.call0 [blk e, [c]] r.size aX p R
 replace r := r.ext aL
 replace p := aF
 clear aF
 replace x := OwnS.plain (M' := fl [blk e, [c], d]) (plain_prod (plain_int _) (plain_prod (plain_int _) (plain_prod (plain_int _) (plain_int _)))) x
 clear g
 refine x_u 5 [(15, .tuple #[Vl e u.1 X, Vi u.2]), (18, Vl e u.1 X), (19, Vi u.2), (7, Vl e u.1 X), (8, Vi u.2)] (x_ek (c_seq (c_sp (x_u 2 [(20, Vi u.2), (21, .bool (u.2 != 0))] (x_ek (c_if (u.2 != 0) R b (fun b => ?_) (fun b => ?_)))))))
 · refine c_sp (x_build (vs := []) (.agg #[.slice none 0 0, Vi 0, Vi 0, .slice none 0 0, .slice none 0 0, .slice none 0 0]) R R R (fun _ _ => by kernel_rfl) ?_)
   refine x_u 1 [(23, Vi u.2)] ?_
   obtain ⟨bF, bw, bl, ba⟩ := store_boxagg 0 [.slice none 0 0, Vi 0, Vi 0, .slice none 0 0, .slice none 0 0, .slice none 0 0] #[.slice none 0 0, Vi 0, Vi 0, .slice none 0 0, .slice none 0 0, .slice none 0 0] tagg67 o R R R
   refine x_store bF (xv := Vp c 0) (yv := .agg #[.slice none 0 0, Vi 0, Vi 0, .slice none 0 0, .slice none 0 0, .slice none 0 0]) R R R R bw (inl1 ?_)
   replace f := f.ev ba
   replace r := r.then ba (fun U Z => .inr (p.at 1 R U Z))
   replace o := bl
   refine x_u 2 [(5, .slice none 0 0), (6, Vi u.2)] (x_ek (c_nm [(4, Vp c 0), (5, .slice none 0 0), (6, Vi u.2)] (fun aD => ?_)))
   refine c_ret (k_then_ret (r_ret (r_vals [.agg #[.slice none 0 0, Vi 0, Vi 0, .slice none 0 0, .slice none 0 0, .slice none 0 0], .slice none 0 0, Vi u.2] ⟨⟨_, R, loadVar_of_reads (reads_boxagg (Mo := []) 0 [.slice none 0 0, Vi 0, Vi 0, .slice none 0 0, .slice none 0 0, .slice none 0 0] tagg67 o nn R)⟩, R, R, trivial⟩ ?_)))
   obtain rfl := some_inj b
   have av := f.pick [none, none, none, none, none, some 2] [blk none, blk none, blk none, blk none, blk none, d] R
   have au := p.pick [none, none, none, none, none] [blk none, blk none, blk none, blk none, blk none] R
   exact ⟨none, 0, none, 0, none, 0, none, 0, none, 0, R, r, av, au, OwnS.nil _ _ _ _, OwnS.nil _ _ _ _, OwnS.nil _ _ _ _, OwnS.nil _ _ _ _, OwnS.nil _ _ _ _⟩
 refine c_skip (k_then (c_sp (x_u 1 [(9, .slice none 0 0)] (x_ek (c_nm [(0, Vl F D G), (1, Vl S N Y), (4, Vp c 0), (7, Vl e u.1 X), (9, .slice none 0 0)] (fun aD => ?_))))))
 refine c_seq (c_sp (x_u 1 [(24, Vl e u.1 X)] (x_len (vs := [Vl e u.1 X]) (Vi ((u.1).length : Int)) R R R (reads_len tsl44 _ _ _ _ _) (x_u 1 [(26, Vi 0)] (x_ek (c_block ?_))))))
 have g := Stp.push (ls := [blk e, [c], d]) (l := blk none) (Ev.refl [] bd) (fun _ b => by cases b) (fun _ b => by cases b)
 replace v := v.step g
 replace w := w.step g
 replace o := (Ev.refl [] _).box o nn
 replace x := x.step g (Ev.refl [] _) nn2
 replace f := f.push (l := blk none) (Ev.refl [] _) (fun _ b => by cases b)
 replace p := p.push (l := blk none) (fun _ b => by cases b)
 have aY := OwnS.nil (eInt .i64) 3 bd (fl [blk none, blk e, [c], d])
 have ap := f.pick [some 2, some 0, some 1, some 3] [[c], blk none, blk e, d] R
 have t := pick_sub (ls := [blk none, blk e, [c], d]) [some 2, some 0, some 1, some 3] [[c], blk none, blk e, d] R
 replace v := v.sub t
 replace w := w.sub t
 replace aY := aY.sub t
 replace x := x.sub t
 replace f := ap
 replace p := p.pick [some 2, some 0, some 1] [[c], blk none, blk e] R
 clear ap t
 obtain ⟨be, aO, aN⟩ := bind_some b
 obtain ⟨aC, aO⟩ := loop_some aO
 refine c_loop (loop_rule hmx (σ := Nat × (List Int) × Int × Option Addr × Nat) (fun aJ => match aJ with | (_, Q, y, h, O) => [(0, Vl F D G), (1, Vl S N Y), (4, Vp c 0), (9, Vl h Q O), (24, Vl e u.1 X), (25, Vi ((u.1).length : Int)), (26, Vi y)]) (fun aJ E => match aJ with | (bz, Q, y, h, O) => loopN (planner_Plan_L10 D N u) bz (Q, y) = some be ∧ Ev [] ac E ∧ MS E [[c], blk h, blk e, d] ∧ FR ac.heap.size [[c], blk h, blk e] ∧ SlR (eIt4) E (fl [[c], blk h, blk e, d]) F G D ∧ SlR (eInt .i64) E (fl [[c], blk h, blk e, d]) S Y N ∧ E.heap[c]? = some (.cells #[.slice none 0 0, Vi 0, Vi 0, .slice none 0 0, .slice none 0 0, .slice none 0 0] 67 (0, 0)) ∧ OwnS (eInt .i64) 3 E (fl [[c], blk h, blk e, d]) h O Q ∧ OwnS (eIt4) 48 E (fl [[c], blk h, blk e, d]) e X u.1) (fun aJ => aJ.1) (aC, ([] : List Int), 0, none, 0) ⟨R, R, R, R, R, R, R, trivial⟩ ⟨aO, r, f, p, v, w, o, aY, x⟩ ?_)
 rintro ⟨aC, Q, y, h, O⟩ aD bO ⟨ao, r, f, p, v, w, o, C, x⟩
 rcases aC with _ | aC
 · exact (loopN_zero ao).elim
 obtain ⟨bL, b, ao⟩ := bind_some ao
 refine c_sp (x_u 1 [(27, .bool (decide (y < ((u.1).length : Int))))] (x_ek (c_nm [(0, Vl F D G), (1, Vl S N Y), (4, Vp c 0), (9, Vl h Q O), (24, Vl e u.1 X), (25, Vi ((u.1).length : Int)), (26, Vi y), (27, .bool (decide (y < ((u.1).length : Int))))] (fun aD => ?_))))
 refine c_seq (c_if (decide (y < ((u.1).length : Int))) R b (fun b => ?_) (fun b => ?_))
 · refine c_skip (k_then (c_seq (c_block (c_sp (x_u 1 [(28, Vi y)] ?_)))))
   obtain ⟨B, bx, b⟩ := bind_some b
   obtain ⟨a9, bG, bH, bq, bm, bf⟩ := own_index (Mo := []) tsl44 x bx
   obtain ⟨_, _, rfl, rfl, ⟨_, _, rfl, rfl, ⟨_, _, rfl, rfl, rfl⟩⟩⟩ := bf
   refine x_indexAddr (xv := Vl e u.1 X) (yv := Vi y) (.pointer (some ⟨a9, (Int.toNat y) * (eIt4).n, none⟩)) R R R R bq (x_load (xv := .pointer (some ⟨a9, (Int.toNat y) * (eIt4).n, none⟩)) (.agg #[Vi B.1, Vi B.2.1, Vi B.2.2.1, Vi B.2.2.2]) R R R (reads_agg tagg48 bm (fun _ b => by cases b)) ?_)
   refine x_alloc (z := .agg #[Vi 0, Vi 0, Vi 0, Vi 0]) R R (by kernel_rfl) (fun s bA a0 ax az bI => ?_)
   replace ax : bA.heap[s]? = some (.cells #[Vi 0, Vi 0, Vi 0, Vi 0] 48 (0, 0)) := ax
   refine inl1 ?_
   have g := Stp.box (ls := [[c], blk h, blk e, d]) az a0
   replace v := v.step g
   replace w := w.step g
   replace o := az.box o nn
   replace C := C.step g az nn2
   replace x := x.step g az nn2
   replace f := f.box az a0 ax
   replace p := p.box r.size a0
   replace r := r.ext az
   refine x_u 1 [(10, Vi y)] ?_
   obtain ⟨bb, br, bg, aA⟩ := store_boxagg 0 [Vi B.1, Vi B.2.1, Vi B.2.2.1, Vi B.2.2.2] #[Vi B.1, Vi B.2.1, Vi B.2.2.1, Vi B.2.2.2] tagg48 ax R R R
   refine x_store bb (xv := Vp s 0) (yv := .agg #[Vi B.1, Vi B.2.1, Vi B.2.2.1, Vi B.2.2.2]) R R R R br (inl1 ?_)
   have g := Stp.ev' (ls := [[s], [c], blk h, blk e, d]) aA (mem_flat 0 R)
   replace v := v.step g
   replace w := w.step g
   replace o := aA.box o (f.apart 1 0 R R R _ mem1)
   replace C := C.step g aA (f.apart 2 0 R R R)
   replace x := x.step g aA (f.apart 3 0 R R R)
   replace f := f.ev aA
   replace r := r.then aA (fun U Z => .inr (p.at 0 R U Z))
   replace ax := bg
   refine x_ek (c_sp (x_u 1 [(32, Vl F D G)] (x_fieldAddr (xv := Vp s 0) (Vp s 0) R R R (reads_field tfld48_0 _ _) (x_load (xv := Vp s 0) (Vi B.1) R R R (reads_box tcell3 ax nn 0 _ R) (x_u 1 [(35, Vl S N Y)] ?_)))))
   obtain ⟨a, aH, b⟩ := bind_some b
   have aE := planner_sheet_w F G D B.1 S Y N _ bb (fl [[s], [c], blk h, blk e, d]) (MS.fold (P := []) f) (v.sub fl1) (w.sub fl1) aH
   refine x_call 55 #[] #[] [Vl F D G, Vi B.1, Vl S N Y] _ R R R R aE ?_
   rintro a3 bN ⟨i, I, j, J, k, K, m, L, q, aq, rfl, aB, bn, aU, ai, aj, ak, al, am⟩
   clear aE aH
   refine inl1 ?_
   have g := Stp.call0 [[s], [c], blk h, blk e, d] [blk i, blk j, blk k, blk m, blk q] [blk i, blk j, blk k, blk m, blk q, [s], [c], blk h, blk e, d] aB aU R
   replace v := v.step g
   replace w := w.step g
   replace o := aB.box o nn
   replace C := C.step g aB nn2
   replace x := x.step g aB nn2
   replace f := MS.call0 [blk i, blk j, blk k, blk m, blk q] [blk i, blk j, blk k, blk m, blk q, [s], [c], blk h, blk e, d] f aB bn aU R
   have aF := FR.call0 [blk i, blk j, blk k, blk m, blk q, [s], [c], blk h, blk e] r.size aU p R
   replace r := r.ext aB
   replace p := aF
   clear aF
   replace ai := OwnS.plain (M' := fl [blk i, blk j, blk k, blk m, blk q, [s], [c], blk h, blk e, d]) (plain_prod (plain_int _) (plain_prod (plain_int _) (plain_prod (plain_int _) (plain_int _)))) ai
   replace aj := OwnS.plain (M' := fl [blk i, blk j, blk k, blk m, blk q, [s], [c], blk h, blk e, d]) (plain_int _) aj
   replace ak := OwnS.plain (M' := fl [blk i, blk j, blk k, blk m, blk q, [s], [c], blk h, blk e, d]) (plain_int _) ak
   replace al := OwnS.plain (M' := fl [blk i, blk j, blk k, blk m, blk q, [s], [c], blk h, blk e, d]) (plain_int _) al
   replace am := OwnS.plain (M' := fl [blk i, blk j, blk k, blk m, blk q, [s], [c], blk h, blk e, d]) (plain_int _) am
   clear g
   refine x_u 4 [(31, .tuple #[.agg #[Vl i a.1.1.1 I, Vi a.1.1.2, Vi a.1.2.1.1.1, Vl j a.1.2.1.1.2 J, Vl k a.1.2.1.2 K, Vl m a.1.2.2 L], Vl q a.2.1 aq, Vi a.2.2]), (37, .agg #[Vl i a.1.1.1 I, Vi a.1.1.2, Vi a.1.2.1.1.1, Vl j a.1.2.1.1.2 J, Vl k a.1.2.1.2 K, Vl m a.1.2.2 L]), (38, Vl q a.2.1 aq), (39, Vi a.2.2)] (x_alloc (z := .agg #[.slice none 0 0, Vi 0, Vi 0, .slice none 0 0, .slice none 0 0, .slice none 0 0]) R R (by kernel_rfl) (fun A bB a1 ay aa bJ => ?_))
   replace ay : bB.heap[A]? = some (.cells #[.slice none 0 0, Vi 0, Vi 0, .slice none 0 0, .slice none 0 0, .slice none 0 0] 67 (0, 0)) := ay
   refine inl1 ?_
   have g := Stp.box (ls := [blk i, blk j, blk k, blk m, blk q, [s], [c], blk h, blk e, d]) aa a1
   replace v := v.step g
   replace w := w.step g
   replace o := aa.box o nn
   replace C := C.step g aa nn2
   replace x := x.step g aa nn2
   replace ai := ai.step g aa nn2
   replace aj := aj.step g aa nn2
   replace ak := ak.step g aa nn2
   replace al := al.step g aa nn2
   replace am := am.step g aa nn2
   replace f := f.box aa a1 ay
   replace p := p.box r.size a1
   replace r := r.ext aa
   obtain ⟨bC, bs, bh, ab⟩ := store_boxagg 0 [Vl i a.1.1.1 I, Vi a.1.1.2, Vi a.1.2.1.1.1, Vl j a.1.2.1.1.2 J, Vl k a.1.2.1.2 K, Vl m a.1.2.2 L] #[Vl i a.1.1.1 I, Vi a.1.1.2, Vi a.1.2.1.1.1, Vl j a.1.2.1.1.2 J, Vl k a.1.2.1.2 K, Vl m a.1.2.2 L] tagg67 ay R R R
   refine x_store bC (xv := Vp A 0) (yv := .agg #[Vl i a.1.1.1 I, Vi a.1.1.2, Vi a.1.2.1.1.1, Vl j a.1.2.1.1.2 J, Vl k a.1.2.1.2 K, Vl m a.1.2.2 L]) R R R R bs (inl1 ?_)
   have g := Stp.ev' (ls := [[A], blk i, blk j, blk k, blk m, blk q, [s], [c], blk h, blk e, d]) ab (mem_flat 0 R)
   replace v := v.step g
   replace w := w.step g
   replace o := ab.box o (f.apart 7 0 R R R _ mem1)
   replace C := C.step g ab (f.apart 8 0 R R R)
   replace x := x.step g ab (f.apart 9 0 R R R)
   replace ai := ai.step g ab (f.apart 1 0 R R R)
   replace aj := aj.step g ab (f.apart 2 0 R R R)
   replace ak := ak.step g ab (f.apart 3 0 R R R)
   replace al := al.step g ab (f.apart 4 0 R R R)
   replace am := am.step g ab (f.apart 5 0 R R R)
   replace f := f.ev ab
   replace r := r.then ab (fun U Z => .inr (p.at 0 R U Z))
   replace ay := bh
   refine x_u 2 [(13, Vl q a.2.1 aq), (14, Vi a.2.2)] (x_ek (c_nm [(0, Vl F D G), (1, Vl S N Y), (4, Vp c 0), (9, Vl h Q O), (10, Vi y), (12, Vp A 0), (13, Vl q a.2.1 aq), (14, Vi a.2.2), (24, Vl e u.1 X), (25, Vi ((u.1).length : Int)), (26, Vi y)] (fun aD => ?_)))
   refine c_sp (x_u 1 [(40, Vi a.2.2)] (x_ek (c_block (c_sp (x_u 2 [(44, .bool (a.2.2 == 0)), (43, .bool (a.2.2 == 0))] (x_ek (c_if (a.2.2 == 0) R b (fun b => ?_) (fun b => ?_))))))))
   · refine c_sp (x_load (xv := Vp A 0) (.agg #[Vl i a.1.1.1 I, Vi a.1.1.2, Vi a.1.2.1.1.1, Vl j a.1.2.1.1.2 J, Vl k a.1.2.1.2 K, Vl m a.1.2.2 L]) R R R (reads_boxagg 0 [Vl i a.1.1.1 I, Vi a.1.1.2, Vi a.1.2.1.1.1, Vl j a.1.2.1.1.2 J, Vl k a.1.2.1.2 K, Vl m a.1.2.2 L] tagg67 ay nn R) ?_)
     obtain ⟨bD, bt, bi, ar⟩ := store_boxagg 0 [Vl i a.1.1.1 I, Vi a.1.1.2, Vi a.1.2.1.1.1, Vl j a.1.2.1.1.2 J, Vl k a.1.2.1.2 K, Vl m a.1.2.2 L] #[Vl i a.1.1.1 I, Vi a.1.1.2, Vi a.1.2.1.1.1, Vl j a.1.2.1.1.2 J, Vl k a.1.2.1.2 K, Vl m a.1.2.2 L] tagg67 o R R R
     refine x_store bD (xv := Vp c 0) (yv := .agg #[Vl i a.1.1.1 I, Vi a.1.1.2, Vi a.1.2.1.1.1, Vl j a.1.2.1.1.2 J, Vl k a.1.2.1.2 K, Vl m a.1.2.2 L]) R R R R bt (inl1 ?_)
     have g := Stp.ev' (ls := [[A], blk i, blk j, blk k, blk m, blk q, [s], [c], blk h, blk e, d]) ar (mem_flat 7 R)
     replace ai := ai.step g ar (f.apart 1 7 R R R)
     replace aj := aj.step g ar (f.apart 2 7 R R R)
     replace ak := ak.step g ar (f.apart 3 7 R R R)
     replace al := al.step g ar (f.apart 4 7 R R R)
     replace f := f.ev ar
     replace r := r.then ar (fun U Z => .inr (p.at 7 R U Z))
     replace o := bi
     refine x_u 2 [(5, .slice none 0 0), (6, Vi 0)] (x_ek (c_ret (k_block_ret (k_block_ret (k_then_ret ?_)))))
     obtain rfl := some_inj b
     have aI := some_inj ao
     subst aI
     replace b := aN
     refine k_then_ret (k_block_ret (k_then_ret (r_ret (r_vals [.agg #[Vl i a.1.1.1 I, Vi a.1.1.2, Vi a.1.2.1.1.1, Vl j a.1.2.1.1.2 J, Vl k a.1.2.1.2 K, Vl m a.1.2.2 L], .slice none 0 0, Vi 0] ⟨⟨_, R, loadVar_of_reads (reads_boxagg (Mo := []) 0 [Vl i a.1.1.1 I, Vi a.1.1.2, Vi a.1.2.1.1.1, Vl j a.1.2.1.1.2 J, Vl k a.1.2.1.2 K, Vl m a.1.2.2 L] tagg67 o nn R)⟩, R, R, trivial⟩ ?_))))
     obtain rfl := some_inj b
     have av := f.pick [some 1, some 2, some 3, some 4, none, some 10] [blk i, blk j, blk k, blk m, blk none, d] R
     have t := pick_sub (ls := [[A], blk i, blk j, blk k, blk m, blk q, [s], [c], blk h, blk e, d]) [some 1, some 2, some 3, some 4, none, some 10] [blk i, blk j, blk k, blk m, blk none, d] R
     have au := p.pick [some 1, some 2, some 3, some 4, none] [blk i, blk j, blk k, blk m, blk none] R
     exact ⟨i, I, j, J, k, K, m, L, none, 0, R, r, av, au, ai.sub t, aj.sub t, ak.sub t, al.sub t, OwnS.nil _ _ _ _⟩
   refine c_sp (x_u 2 [(47, .bool (a.2.2 == 14)), (46, .bool (a.2.2 == 14))] (x_ek (c_if (a.2.2 == 14) R b (fun b => ?_) (fun b => ?_))))
   · refine c_sp (x_u 2 [(48, Vi y), (49, .bool (y == 0))] (x_ek (c_if (y == 0) R b (fun b => ?_) (fun b => ?_))))
     · refine c_plain (x_u 2 [(50, Vl q a.2.1 aq), (9, Vl q a.2.1 aq)] (x_end R (k_block (k_block (k_then (c_plain (x_u 2 [(51, Vi (i64.wrap (y + 1))), (26, Vi (i64.wrap (y + 1)))] (x_end R ?_))))))))
       obtain rfl := some_inj b
       have ap := f.pick [some 7, some 5, some 9, some 10] [[c], blk q, blk e, d] R
       have t := pick_sub (ls := [[A], blk i, blk j, blk k, blk m, blk q, [s], [c], blk h, blk e, d]) [some 7, some 5, some 9, some 10] [[c], blk q, blk e, d] R
       replace v := v.sub t
       replace w := w.sub t
       replace am := am.sub t
       replace x := x.sub t
       replace f := ap
       replace p := p.pick [some 7, some 5, some 9] [[c], blk q, blk e] R
       clear ap t
       exact k_then ⟨(aC, a.2.1, i64.wrap (y + 1), q, aq), ⟨R, R, R, R, R, R, R, trivial⟩, ⟨ao, r, f, p, v, w, o, am, x⟩, Nat.lt_succ_self _⟩
     refine c_skip (k_block (k_block (k_then (c_plain (x_u 2 [(51, Vi (i64.wrap (y + 1))), (26, Vi (i64.wrap (y + 1)))] (x_end R ?_))))))
     obtain rfl := some_inj b
     have ap := f.pick [some 7, some 8, some 9, some 10] [[c], blk h, blk e, d] R
     have t := pick_sub (ls := [[A], blk i, blk j, blk k, blk m, blk q, [s], [c], blk h, blk e, d]) [some 7, some 8, some 9, some 10] [[c], blk h, blk e, d] R
     replace v := v.sub t
     replace w := w.sub t
     replace C := C.sub t
     replace x := x.sub t
     replace f := ap
     replace p := p.pick [some 7, some 8, some 9] [[c], blk h, blk e] R
     clear ap t
     exact k_then ⟨(aC, Q, i64.wrap (y + 1), h, O), ⟨R, R, R, R, R, R, R, trivial⟩, ⟨ao, r, f, p, v, w, o, C, x⟩, Nat.lt_succ_self _⟩
   refine c_sp (x_build (vs := []) (.agg #[.slice none 0 0, Vi 0, Vi 0, .slice none 0 0, .slice none 0 0, .slice none 0 0]) R R R (fun _ _ => by kernel_rfl) ?_)
   refine x_u 1 [(42, Vi a.2.2)] ?_
   obtain ⟨an, bu, bj, aS⟩ := store_boxagg 0 [.slice none 0 0, Vi 0, Vi 0, .slice none 0 0, .slice none 0 0, .slice none 0 0] #[.slice none 0 0, Vi 0, Vi 0, .slice none 0 0, .slice none 0 0, .slice none 0 0] tagg67 o R R R
   refine x_store an (xv := Vp c 0) (yv := .agg #[.slice none 0 0, Vi 0, Vi 0, .slice none 0 0, .slice none 0 0, .slice none 0 0]) R R R R bu (inl1 ?_)
   have g := Stp.ev' (ls := [[A], blk i, blk j, blk k, blk m, blk q, [s], [c], blk h, blk e, d]) aS (mem_flat 7 R)
   replace f := f.ev aS
   replace r := r.then aS (fun U Z => .inr (p.at 7 R U Z))
   replace o := bj
   refine x_u 2 [(5, .slice none 0 0), (6, Vi a.2.2)] (x_ek (c_ret (k_block_ret (k_block_ret (k_then_ret ?_)))))
   obtain rfl := some_inj b
   have aI := some_inj ao
   subst aI
   have g := Stp.push (ls := [[A], blk i, blk j, blk k, blk m, blk q, [s], [c], blk h, blk e, d]) (l := blk none) (Ev.refl [] an) (fun _ b => by cases b) (fun _ b => by cases b)
   replace o := (Ev.refl [] _).box o nn
   replace f := f.push (l := blk none) (Ev.refl [] _) (fun _ b => by cases b)
   replace p := p.push (l := blk none) (fun _ b => by cases b)
   have aw := OwnS.nil (eIt4) 76 an (fl [blk none, [A], blk i, blk j, blk k, blk m, blk q, [s], [c], blk h, blk e, d])
   have g := Stp.push (ls := [blk none, [A], blk i, blk j, blk k, blk m, blk q, [s], [c], blk h, blk e, d]) (l := blk none) (Ev.refl [] an) (fun _ b => by cases b) (fun _ b => by cases b)
   replace o := (Ev.refl [] _).box o nn
   replace aw := aw.step g (Ev.refl [] _) nn2
   replace f := f.push (l := blk none) (Ev.refl [] _) (fun _ b => by cases b)
   replace p := p.push (l := blk none) (fun _ b => by cases b)
   have aG := OwnS.nil (eInt .i64) 3 an (fl [blk none, blk none, [A], blk i, blk j, blk k, blk m, blk q, [s], [c], blk h, blk e, d])
   have g := Stp.push (ls := [blk none, blk none, [A], blk i, blk j, blk k, blk m, blk q, [s], [c], blk h, blk e, d]) (l := blk none) (Ev.refl [] an) (fun _ b => by cases b) (fun _ b => by cases b)
   replace o := (Ev.refl [] _).box o nn
   replace aw := aw.step g (Ev.refl [] _) nn2
   replace aG := aG.step g (Ev.refl [] _) nn2
   replace f := f.push (l := blk none) (Ev.refl [] _) (fun _ b => by cases b)
   replace p := p.push (l := blk none) (fun _ b => by cases b)
   have aZ := OwnS.nil (eInt .i64) 3 an (fl [blk none, blk none, blk none, [A], blk i, blk j, blk k, blk m, blk q, [s], [c], blk h, blk e, d])
   have g := Stp.push (ls := [blk none, blk none, blk none, [A], blk i, blk j, blk k, blk m, blk q, [s], [c], blk h, blk e, d]) (l := blk none) (Ev.refl [] an) (fun _ b => by cases b) (fun _ b => by cases b)
   replace o := (Ev.refl [] _).box o nn
   replace aw := aw.step g (Ev.refl [] _) nn2
   replace aG := aG.step g (Ev.refl [] _) nn2
   replace aZ := aZ.step g (Ev.refl [] _) nn2
   replace f := f.push (l := blk none) (Ev.refl [] _) (fun _ b => by cases b)
   replace p := p.push (l := blk none) (fun _ b => by cases b)
   have bp := OwnS.nil (eInt .i64) 3 an (fl [blk none, blk none, blk none, blk none, [A], blk i, blk j, blk k, blk m, blk q, [s], [c], blk h, blk e, d])
   replace b := aN
   refine k_then_ret (k_block_ret (k_then_ret (r_ret (r_vals [.agg #[.slice none (([] : List (Int × Int × Int × Int))).length 0, Vi 0, Vi 0, .slice none (([] : List Int)).length 0, .slice none (([] : List Int)).length 0, .slice none (([] : List Int)).length 0], .slice none 0 0, Vi a.2.2] ⟨⟨_, R, loadVar_of_reads (reads_boxagg (Mo := []) 0 [.slice none (([] : List (Int × Int × Int × Int))).length 0, Vi 0, Vi 0, .slice none (([] : List Int)).length 0, .slice none (([] : List Int)).length 0, .slice none (([] : List Int)).length 0] tagg67 o nn R)⟩, R, R, trivial⟩ ?_))))
   obtain rfl := some_inj b
   have av := f.pick [some 3, some 2, some 1, some 0, none, some 14] [blk none, blk none, blk none, blk none, blk none, d] R
   have t := pick_sub (ls := [blk none, blk none, blk none, blk none, [A], blk i, blk j, blk k, blk m, blk q, [s], [c], blk h, blk e, d]) [some 3, some 2, some 1, some 0, none, some 14] [blk none, blk none, blk none, blk none, blk none, d] R
   have au := p.pick [some 3, some 2, some 1, some 0, none] [blk none, blk none, blk none, blk none, blk none] R
   exact ⟨none, 0, none, 0, none, 0, none, 0, none, 0, R, r, av, au, aw.sub t, aG.sub t, aZ.sub t, bp.sub t, OwnS.nil _ _ _ _⟩
 refine c_exit (k_then_exit ?_)
 obtain rfl := some_inj b
 have aI := some_inj ao
 subst aI
 replace b := aN
 refine k_then_exit (k_block_in (k_then (c_nm [(4, Vp c 0), (9, Vl h Q O)] (fun aD => ?_))))
 refine c_sp (x_build (vs := []) (.agg #[.slice none 0 0, Vi 0, Vi 0, .slice none 0 0, .slice none 0 0, .slice none 0 0]) R R R (fun _ _ => by kernel_rfl) ?_)
 refine x_u 1 [(53, Vl h Q O)] ?_
 obtain ⟨bE, bv, bk, aK⟩ := store_boxagg 0 [.slice none 0 0, Vi 0, Vi 0, .slice none 0 0, .slice none 0 0, .slice none 0 0] #[.slice none 0 0, Vi 0, Vi 0, .slice none 0 0, .slice none 0 0, .slice none 0 0] tagg67 o R R R
 refine x_store bE (xv := Vp c 0) (yv := .agg #[.slice none 0 0, Vi 0, Vi 0, .slice none 0 0, .slice none 0 0, .slice none 0 0]) R R R R bv (inl1 ?_)
 have g := Stp.ev' (ls := [[c], blk h, blk e, d]) aK (mem_flat 0 R)
 replace C := C.step g aK (f.apart 1 0 R R R)
 replace f := f.ev aK
 replace r := r.then aK (fun U Z => .inr (p.at 0 R U Z))
 replace o := bk
 refine x_u 2 [(5, Vl h Q O), (6, Vi 14)] (x_ek (c_ret (r_ret (r_vals [.agg #[.slice none 0 0, Vi 0, Vi 0, .slice none 0 0, .slice none 0 0, .slice none 0 0], Vl h Q O, Vi 14] ⟨⟨_, R, loadVar_of_reads (reads_boxagg (Mo := []) 0 [.slice none 0 0, Vi 0, Vi 0, .slice none 0 0, .slice none 0 0, .slice none 0 0] tagg67 o nn R)⟩, R, R, trivial⟩ ?_))))
 obtain rfl := some_inj b
 have av := f.pick [none, none, none, none, some 1, some 3] [blk none, blk none, blk none, blk none, blk h, d] R
 have t := pick_sub (ls := [[c], blk h, blk e, d]) [none, none, none, none, some 1, some 3] [blk none, blk none, blk none, blk none, blk h, d] R
 have au := p.pick [none, none, none, none, some 1] [blk none, blk none, blk none, blk none, blk h] R
 exact ⟨none, 0, none, 0, none, 0, none, 0, h, O, R, r, av, au, OwnS.nil _ _ _ _, OwnS.nil _ _ _ _, OwnS.nil _ _ _ _, OwnS.nil _ _ _ _, C.sub t⟩
def planner_Check (b : List (Int × Int × Int × Int)) (c : Int) (d : Int) (e : List Int) (g : List Int) (h : List Int) (i : List Int) : Option Int :=
((certificate_Check b c d e g).bind fun f =>
(if (f != 0) = true then
some f
else
((rollin_Loads b c d e).bind fun a =>
(if (a.2 != 0) = true then
some a.2
else
((assign_Fits a.1 i h).bind fun j =>
(if (!j) = true then
some 14
else
some 0))))))
theorem planner_Check_w (i : Option Addr) (k : Nat) (f : List (Int × Int × Int × Int)) (m : Int) (n : Int) (j : Option Addr) (l : Nat) (g : List Int) (t : Option Addr) (u : Nat) (r : List Int) (y : Option Addr) (z : Nat) (x : List Int) (D : Option Addr) (F : Nat) (C : List Int) (Z : Int) (s : World) (b : List Nat) (q : MS s [b]) (H : SlR (eIt4) s (fl [b]) i k f) (I : SlR (eInt .i64) s (fl [b]) j l g) (S : SlR (eInt .i64) s (fl [b]) t u r) (v : SlR (eInt .i64) s (fl [b]) y z x) (w : SlR (eInt .i64) s (fl [b]) D F C) (c : planner_Check f m n g r x C = some Z) : CallVC Tryz.prog 31 [.agg #[Vl i f k, Vi m, Vi n, Vl j g l, Vl t r u, Vl y x z], Vl D C F] s fun O ae => O = Vi Z ∧ Ev [] s ae := by
 refine calls_vc hmx Tryz.func31 (by kernel_rfl) R (rs := [.tmp 4]) R (by kernel_rfl) (args := [.agg #[Vl i f k, Vi m, Vi n, Vl j g l, Vl t r u, Vl y x z], Vl D C F]) R ?_
 have p : Ev [] s s := Ev.refl _ _
 refine c_sp (x_box (xv := .agg #[Vl i f k, Vi m, Vi n, Vl j g l, Vl t r u, Vl y x z]) R R R (fun a aa Y o Q ai => ?_))
 replace o : aa.heap[a]? = some (.cells #[Vl i f k, Vi m, Vi n, Vl j g l, Vl t r u, Vl y x z] 67 (0, 0)) := o
 refine inl1 ?_
 have e := Stp.box (ls := [b]) Q Y
 replace H := H.step e
 replace I := I.step e
 replace S := S.step e
 replace v := v.step e
 replace w := w.step e
 replace q := q.box Q Y o
 replace p := p.ext Q
 refine x_u 1 [(4, Vi 0)] (x_ek (c_seq (c_sp (x_fieldAddr (xv := Vp a 0) (Vp a 0) R R R (reads_field tfld67_0 _ _) (x_load (xv := Vp a 0) (.agg #[Vl i f k, Vi m]) R R R (reads_boxagg 0 [Vl i f k, Vi m] tagg50 o nn R) (x_fieldAddr (xv := Vp a 0) (Vp a 2) R R R (reads_field tfld67_1 _ _) (x_load (xv := Vp a 2) (.agg #[Vi n, Vl j g l, Vl t r u]) R R R (reads_boxagg 2 [Vi n, Vl j g l, Vl t r u] tagg54 o nn R) ?_)))))))
 obtain ⟨G, B, c⟩ := bind_some c
 have A := certificate_Check_w i k f m n j l g t u r _ aa (fl [[a], b]) (MS.fold (P := []) q) (H.sub fl1) (I.sub fl1) (S.sub fl1) B
 refine x_call 58 #[] #[] [.agg #[Vl i f k, Vi m], .agg #[Vi n, Vl j g l, Vl t r u]] _ R R R R A ?_
 rintro O af ⟨rfl, K⟩
 clear A B
 refine inl1 ?_
 have e := Stp.ext (ls := [[a], b]) K
 replace H := H.step e
 replace I := I.step e
 replace v := v.step e
 replace w := w.step e
 replace o := K.box o nn
 replace q := q.ev K
 replace p := p.ext K
 refine x_u 1 [(5, Vi G)] (x_ek (c_sp (x_u 2 [(13, Vi G), (14, .bool (G != 0))] (x_ek (c_if (G != 0) R c (fun c => ?_) (fun c => ?_))))))
 · refine c_sp (x_u 2 [(15, Vi G), (4, Vi G)] (x_ek (c_ret (k_then_ret (r_ret (r_vals [Vi G] ⟨R, trivial⟩ ?_))))))
   obtain rfl := some_inj c
   exact ⟨R, p⟩
 refine c_skip (k_then (c_sp (x_fieldAddr (xv := Vp a 0) (Vp a 0) R R R (reads_field tfld67_0 _ _) (x_load (xv := Vp a 0) (.agg #[Vl i f k, Vi m]) R R R (reads_boxagg 0 [Vl i f k, Vi m] tagg50 o nn R) (x_fieldAddr (xv := Vp a 0) (Vp a 2) R R R (reads_field tfld67_1 _ _) (x_fieldAddr (xv := Vp a 2) (Vp a 2) R R R (reads_field tfld54_0 _ _) (x_load (xv := Vp a 2) (.agg #[Vi n, Vl j g l]) R R R (reads_boxagg 2 [Vi n, Vl j g l] tagg52 o nn R) ?_)))))))
 obtain ⟨d, B, c⟩ := bind_some c
 have A := rollin_Loads_w i k f m n j l g _ af (fl [[a], b]) (MS.fold (P := []) q) (H.sub fl1) (I.sub fl1) B
 refine x_call 39 #[] #[] [.agg #[Vl i f k, Vi m], .agg #[Vi n, Vl j g l]] _ R R R R A ?_
 rintro O ag ⟨h, E, rfl, L, ad, U, J⟩
 clear A B
 refine inl1 ?_
 have e := Stp.call0 [[a], b] [blk h] [blk h, [a], b] L U R
 replace v := v.step e
 replace w := w.step e
 replace o := L.box o nn
 replace q := MS.call0 [blk h] [blk h, [a], b] q L ad U R
 replace p := p.ext L
 replace J := OwnS.plain (M' := fl [blk h, [a], b]) (plain_int _) J
 clear e
 have X := q.pick [some 1, some 2] [[a], b] R
 have N := pick_sub (ls := [blk h, [a], b]) [some 1, some 2] [[a], b] R
 replace v := v.sub N
 replace w := w.sub N
 replace J := J.ro N (pick_out q 0 R [some 1, some 2] [[a], b] R R)
 replace q := X
 clear X N
 refine x_u 5 [(16, .tuple #[Vl h d.1 E, Vi d.2]), (23, Vl h d.1 E), (24, Vi d.2), (6, Vl h d.1 E), (7, Vi d.2)] (x_ek (c_nm [(1, Vl D C F), (2, Vp a 0), (6, Vl h d.1 E), (7, Vi d.2)] (fun ah => ?_)))
 refine c_seq (c_sp (x_u 2 [(25, Vi d.2), (26, .bool (d.2 != 0))] (x_ek (c_if (d.2 != 0) R c (fun c => ?_) (fun c => ?_)))))
 · refine c_sp (x_u 2 [(27, Vi d.2), (4, Vi d.2)] (x_ek (c_ret (k_then_ret (r_ret (r_vals [Vi d.2] ⟨R, trivial⟩ ?_))))))
   obtain rfl := some_inj c
   exact ⟨R, p⟩
 refine c_skip (k_then (c_seq (c_sp (x_u 2 [(28, Vl h d.1 E), (29, Vl D C F)] (x_fieldAddr (xv := Vp a 0) (Vp a 5) R R R (reads_field tfld67_2 _ _) (x_load (xv := Vp a 5) (Vl y x z) R R R (reads_box tcell22 o nn 5 _ R) ?_))))))
 obtain ⟨ab, B, c⟩ := bind_some c
 have A := assign_Fits_w h E d.1 D F C y z x _ ag (fl [[a], b]) (MS.fold (P := []) q) (J.sub fl1) (w.sub fl1) (v.sub fl1) B
 refine x_call 59 #[] #[] [Vl h d.1 E, Vl D C F, Vl y x z] _ R R R R A ?_
 rintro O aj ⟨rfl, ac⟩
 clear A B
 refine inl1 ?_
 replace p := p.ext ac
 refine x_u 1 [(33, .bool (!ab))] (x_ek (c_if (!ab) R c (fun c => ?_) (fun c => ?_)))
 · refine c_sp (x_u 1 [(4, Vi 14)] (x_ek (c_ret (k_then_ret (r_ret (r_vals [Vi 14] ⟨R, trivial⟩ ?_))))))
   obtain rfl := some_inj c
   exact ⟨R, p⟩
 refine c_skip (k_then (c_sp (x_u 1 [(4, Vi 0)] (x_ek (c_ret (r_ret (r_vals [Vi 0] ⟨R, trivial⟩ ?_)))))))
 obtain rfl := some_inj c
 exact ⟨R, p⟩
def planner_find_L2 (b : List (List (List UInt8))) (d : List UInt8) (e : Int) : Option (Step Int ((Int × Int) ⊕ Unit)) :=
match e with
| a =>
(if (decide (a < ((b).length : Int))) = true then
((idx b a).bind fun f =>
((slices_Index_string_string_ f d).bind fun c =>
(if (decide (c ≥ 0)) = true then
some (.done (.inl (a, c)))
else
some (.next (i64.wrap (a + 1))))))
else
some (.done (.inr ())))
def planner_find (c : List (List (List UInt8))) (d : List UInt8) : Option (Int × Int × Bool) :=
((loop (planner_find_L2 c d) 0).bind fun b => match b with
| (.inl (e, a)) => some (e, a, true)
| (.inr _) => some (0, 0, false))
theorem planner_find_w (h : Option Addr) (i : Nat) (b : List (List (List UInt8))) (j : List UInt8) (A : Int × Int × Bool) (l : World) (g : List Nat) (e : MS l [g]) (f : SlR (eSl eStr) l (fl [g]) h i b) (a : planner_find b j = some A) : CallVC Tryz.prog 44 [Vl h b i, Vs j] l fun O x => O = .tuple #[Vi A.1, Vi A.2.1, .bool A.2.2] ∧ Ev [] l x := by
 refine calls_vc hmx Tryz.func44 (by kernel_rfl) R (rs := [.tmp 4, .tmp 5, .tmp 6]) R (by kernel_rfl) (args := [Vl h b i, Vs j]) R ?_
 have d : Ev [] l l := Ev.refl _ _
 have m : FR l.heap.size [] := FR.nil _
 refine c_sp (x_u 3 [(4, Vi 0), (5, Vi 0), (6, .bool false)] (x_ek (c_seq (c_sp (x_u 1 [(10, Vl h b i)] (x_len (vs := [Vl h b i]) (Vi ((b).length : Int)) R R R (reads_len tsl23 _ _ _ _ _) (x_u 1 [(12, Vi 0)] (x_ek (c_block ?_)))))))))
 obtain ⟨U, B, I⟩ := bind_some a
 obtain ⟨v, B⟩ := loop_some B
 refine c_loop (loop_rule hmx (σ := Nat × Int) (fun w => match w with | (_, c) => [(1, Vs j), (10, Vl h b i), (11, Vi ((b).length : Int)), (12, Vi c)]) (fun w x => match w with | (ae, c) => loopN (planner_find_L2 b j) ae c = some U ∧ Ev [] l x ∧ MS x [g] ∧ FR l.heap.size [] ∧ SlR (eSl eStr) x (fl [g]) h i b) (fun w => w.1) (v, 0) ⟨R, R, R, R, trivial⟩ ⟨B, d, e, m, f⟩ ?_)
 rintro ⟨v, c⟩ y ak ⟨t, d, e, m, f⟩
 rcases v with _ | v
 · exact (loopN_zero t).elim
 obtain ⟨ai, a, t⟩ := bind_some t
 refine c_sp (x_u 1 [(13, .bool (decide (c < ((b).length : Int))))] (x_ek (c_nm [(1, Vs j), (10, Vl h b i), (11, Vi ((b).length : Int)), (12, Vi c), (13, .bool (decide (c < ((b).length : Int))))] (fun y => ?_))))
 refine c_seq (c_if (decide (c < ((b).length : Int))) R a (fun a => ?_) (fun a => ?_))
 · refine c_skip (k_then (c_seq (c_block (c_sp (x_u 1 [(14, Vi c)] ?_)))))
   obtain ⟨r, ad, a⟩ := bind_some a
   obtain ⟨H, ag, ac, aa, X⟩ := reads_index (Mo := []) tsl23 f ad
   obtain ⟨o, p, rfl, u⟩ := X
   refine x_indexAddr (xv := Vl h b i) (yv := Vi c) (.pointer (some H)) R R R R ac (x_load (xv := .pointer (some H)) (.agg #[Vl o r p]) R R R (reads_agg tagg31 aa (fun _ a => by cases a)) ?_)
   refine x_alloc (z := .agg #[.slice none 0 0]) R R (by kernel_rfl) (fun k af F s E ah => ?_)
   replace s : af.heap[k]? = some (.cells #[.slice none 0 0] 31 (0, 0)) := s
   refine inl1 ?_
   have q := Stp.box (ls := [g]) E F
   replace f := f.step q
   replace u := u.step q
   replace e := e.box E F s
   replace m := m.box d.size F
   replace d := d.ext E
   refine x_u 1 [(7, Vi c)] ?_
   obtain ⟨Q, ab, Z, C⟩ := store_boxagg 0 [Vl o r p] #[Vl o r p] tagg31 s R R R
   refine x_store Q (xv := Vp k 0) (yv := .agg #[Vl o r p]) R R R R ab (inl1 ?_)
   have q := Stp.ev' (ls := [[k], g]) C (mem_flat 0 R)
   replace f := f.step q
   replace u := u.step q
   replace e := e.ev C
   replace d := d.then C (fun S Y => .inr (m.at 0 R S Y))
   replace s := Z
   refine x_ek (c_sp (x_fieldAddr (xv := Vp k 0) (Vp k 0) R R R (reads_field tfld31_0 _ _) (x_load (xv := Vp k 0) (Vl o r p) R R R (reads_box tcell29 s nn 0 _ R) (x_u 1 [(19, Vs j)] ?_))))
   obtain ⟨n, N, a⟩ := bind_some a
   have J := slices_Index_string_string__w o p r j _ Q (fl [[k], g]) (MS.fold (P := []) e) (u.sub fl1) N
   refine x_call 75 #[] #[] [Vl o r p, Vs j] _ R R R R J ?_
   rintro O aj ⟨rfl, D⟩
   clear J N
   refine inl1 ?_
   have q := Stp.ext (ls := [[k], g]) D
   replace f := f.step q
   replace e := e.ev D
   replace d := d.ext D
   refine x_u 1 [(9, Vi n)] (x_ek (c_sp (x_u 2 [(21, Vi n), (22, .bool (decide (n ≥ 0)))] (x_ek (c_if (decide (n ≥ 0)) R a (fun a => ?_) (fun a => ?_))))))
   · refine c_sp (x_u 5 [(23, Vi c), (24, Vi n), (4, Vi c), (5, Vi n), (6, .bool true)] (x_ek (c_nm [(4, Vi c), (5, Vi n), (6, .bool true)] (fun y => ?_))))
     refine c_ret (k_block_ret (k_then_ret ?_))
     obtain rfl := some_inj a
     have G := some_inj t
     subst G
     replace a := I
     refine k_then_ret (k_block_ret (k_then_ret (r_ret (r_vals [Vi c, Vi n, .bool true] ⟨R, R, R, trivial⟩ ?_))))
     obtain rfl := some_inj a
     exact ⟨R, d⟩
   refine c_skip (k_block (k_then (c_nm [(1, Vs j), (10, Vl h b i), (11, Vi ((b).length : Int)), (12, Vi c)] (fun y => ?_))))
   refine c_plain (x_u 2 [(25, Vi (i64.wrap (c + 1))), (12, Vi (i64.wrap (c + 1)))] (x_end R ?_))
   obtain rfl := some_inj a
   have K := e.pick [some 1] [g] R
   have L := pick_sub (ls := [[k], g]) [some 1] [g] R
   replace f := f.sub L
   replace e := K
   replace m := m.pick [] [] R
   clear K L
   exact k_then ⟨(v, i64.wrap (c + 1)), ⟨R, R, R, R, trivial⟩, ⟨t, d, e, m, f⟩, Nat.lt_succ_self _⟩
 refine c_exit (k_then_exit ?_)
 obtain rfl := some_inj a
 have G := some_inj t
 subst G
 replace a := I
 refine k_then_exit (k_block_in (k_then (c_norm [] trivial (fun y => ?_))))
 refine c_sp (x_u 3 [(4, Vi 0), (5, Vi 0), (6, .bool false)] (x_ek (c_ret (r_ret (r_vals [Vi 0, Vi 0, .bool false] ⟨R, R, R, trivial⟩ ?_)))))
 obtain rfl := some_inj a
 exact ⟨R, d⟩
def planner_Items_L14 (g : List (List (List UInt8))) (e : List ((List UInt8) × Int × Int × Int × Int × Int × Bool × (List UInt8))) (h : (List (Int × Int × Int × Int)) × Int) : Option (Step ((List (Int × Int × Int × Int)) × Int) (Int ⊕ (List (Int × Int × Int × Int)))) :=
match h with
| (c, d) =>
(if (decide (d < ((e).length : Int))) = true then
((idx e d).bind fun a =>
((consist_Valid a.1 a.2.1 a.2.2.1 a.2.2.2.1 a.2.2.2.2.1 a.2.2.2.2.2.1 a.2.2.2.2.2.2.1 a.2.2.2.2.2.2.2).bind fun f =>
(if (f != 0) = true then
some (.done (.inl f))
else
((planner_find g a.2.2.2.2.2.2.2).bind fun b =>
(if (!b.2.2) = true then
some (.done (.inl 13))
else
(if c.length + ([(b.1, b.2.1, 0, a.2.1)] : List (Int × Int × Int × Int)).length ≤ 4294967296 then
some (.next ((c ++ ([(b.1, b.2.1, 0, a.2.1)] : List (Int × Int × Int × Int))), i64.wrap (d + 1)))
else none))))))
else
some (.done (.inr c)))
def planner_Items_L5 (b : List (List (List UInt8))) (c : Int) : Option (Step Int (Unit ⊕ Unit)) :=
match c with
| a =>
(if (decide (a < ((b).length : Int))) = true then
((idx b a).bind fun d =>
(if (decide (((d).length : Int) > 32)) = true then
some (.done (.inl ()))
else
some (.next (i64.wrap (a + 1)))))
else
some (.done (.inr ())))
def planner_Items (b : List (List (List UInt8))) (c : List ((List UInt8) × Int × Int × Int × Int × Int × Bool × (List UInt8))) : Option ((List (Int × Int × Int × Int)) × Int) :=
(if (decide (((b).length : Int) > 16)) = true then
some ([], 3)
else
(if (decide (((c).length : Int) > 96)) = true then
some ([], 3)
else
((loop (planner_Items_L5 b) 0).bind fun a => match a with
| (.inl _) => some ([], 3)
| (.inr _) => ((loop (planner_Items_L14 b c) (([] : List (Int × Int × Int × Int)), 0)).bind fun a => match a with
| (.inl e) => some ([], e)
| (.inr d) => some (d, 0)))))
theorem planner_Items_w (p : Option Addr) (q : Nat) (g : List (List (List UInt8))) (s : Option Addr) (t : Nat) (m : List ((List UInt8) × Int × Int × Int × Int × Int × Bool × (List UInt8))) (al : (List (Int × Int × Int × Int)) × Int) (w : World) (d : List Nat) (f : MS w [d]) (k : SlR (eSl eStr) w (fl [d]) p q g) (n : SlR (eProd eStr (eProd (eInt .i64) (eProd (eInt .i64) (eProd (eInt .i64) (eProd (eInt .i64) (eProd (eInt .i64) (eProd eBool eStr))))))) w (fl [d]) s t m) (b : planner_Items g m = some al) : CallVC Tryz.prog 15 [Vl p g q, Vl s m t] w fun az x => ∃ (aa : Option Addr), ∃ (aE : Nat), az = .tuple #[Vl aa al.1 aE, Vi al.2] ∧ Ev [] w x ∧ MS x [blk aa, d] ∧ FR w.heap.size [blk aa] ∧ OwnS (eIt4) 76 x (fl [blk aa, d]) aa aE al.1 := by
 refine calls_vc hmx Tryz.func15 (by kernel_rfl) R (rs := [.tmp 4, .tmp 5]) R (by kernel_rfl) (args := [Vl p g q, Vl s m t]) R ?_
 have i : Ev [] w w := Ev.refl _ _
 have o : FR w.heap.size [] := FR.nil _
 refine c_sp (x_u 2 [(4, .slice none 0 0), (5, Vi 0)] (x_ek (c_seq (c_sp (x_u 1 [(15, Vl p g q)] (x_len (vs := [Vl p g q]) (Vi ((g).length : Int)) R R R (reads_len tsl23 _ _ _ _ _) (x_u 2 [(17, .bool (decide (((g).length : Int) > 16))), (18, .bool (decide (((g).length : Int) > 16)))] (x_if 18 (decide (((g).length : Int) > 16)) R b (fun b => ?_) (fun b => ?_)))))))))
 · refine x_u 4 [(19, undef), (20, undef), (21, undef), (22, .bool true)] (x_ek (c_true R (c_sp (x_u 2 [(4, .slice none 0 0), (5, Vi 3)] (x_ek (c_ret (k_then_ret (r_ret (r_vals [.slice none 0 0, Vi 3] ⟨R, R, trivial⟩ ?_)))))))))
   obtain rfl := some_inj b
   have E := f.pick [none, some 0] [blk none, d] R
   have D := o.pick [none] [blk none] R
   exact ⟨none, 0, R, i, E, D, OwnS.nil _ _ _ _⟩
 refine x_u 1 [(19, Vl s m t)] (x_len (vs := [Vl s m t]) (Vi ((m).length : Int)) R R R (reads_len tsl24 _ _ _ _ _) (x_u 2 [(21, .bool (decide (((m).length : Int) > 96))), (22, .bool (decide (((m).length : Int) > 96)))] (x_ek (c_if (decide (((m).length : Int) > 96)) R b (fun b => ?_) (fun b => ?_)))))
 · refine c_sp (x_u 2 [(4, .slice none 0 0), (5, Vi 3)] (x_ek (c_nm [(4, .slice none 0 0), (5, Vi 3)] (fun N => ?_))))
   refine c_ret (k_then_ret (r_ret (r_vals [.slice none 0 0, Vi 3] ⟨R, R, trivial⟩ ?_)))
   obtain rfl := some_inj b
   have E := f.pick [none, some 0] [blk none, d] R
   have D := o.pick [none] [blk none] R
   exact ⟨none, 0, R, i, E, D, OwnS.nil _ _ _ _⟩
 refine c_skip (k_then (c_seq (c_sp (x_u 1 [(23, Vl p g q)] (x_len (vs := [Vl p g q]) (Vi ((g).length : Int)) R R R (reads_len tsl23 _ _ _ _ _) (x_u 1 [(25, Vi 0)] (x_ek (c_nm [(0, Vl p g q), (1, Vl s m t), (23, Vl p g q), (24, Vi ((g).length : Int)), (25, Vi 0)] (fun N => ?_)))))))))
 refine c_block ?_
 obtain ⟨aS, ap, aG⟩ := bind_some b
 obtain ⟨ah, ap⟩ := loop_some ap
 refine c_loop (loop_rule hmx (σ := Nat × Int) (fun F => match F with | (_, C) => [(0, Vl p g q), (1, Vl s m t), (23, Vl p g q), (24, Vi ((g).length : Int)), (25, Vi C)]) (fun F x => match F with | (ay, C) => loopN (planner_Items_L5 g) ay C = some aS ∧ Ev [] w x ∧ MS x [d] ∧ FR w.heap.size [] ∧ SlR (eSl eStr) x (fl [d]) p q g ∧ SlR (eProd eStr (eProd (eInt .i64) (eProd (eInt .i64) (eProd (eInt .i64) (eProd (eInt .i64) (eProd (eInt .i64) (eProd eBool eStr))))))) x (fl [d]) s t m) (fun F => F.1) (ah, 0) ⟨R, R, R, R, R, trivial⟩ ⟨ap, i, f, o, k, n⟩ ?_)
 rintro ⟨ah, C⟩ N aO ⟨Z, i, f, o, k, n⟩
 rcases ah with _ | ah
 · exact (loopN_zero Z).elim
 obtain ⟨bn, b, Z⟩ := bind_some Z
 refine c_sp (x_u 1 [(26, .bool (decide (C < ((g).length : Int))))] (x_ek (c_nm [(0, Vl p g q), (1, Vl s m t), (23, Vl p g q), (24, Vi ((g).length : Int)), (25, Vi C), (26, .bool (decide (C < ((g).length : Int))))] (fun N => ?_))))
 refine c_seq (c_if (decide (C < ((g).length : Int))) R b (fun b => ?_) (fun b => ?_))
 · refine c_skip (k_then (c_seq (c_block (c_sp ?_))))
   obtain ⟨L, ba, b⟩ := bind_some b
   obtain ⟨aC, bg, a7, aZ, an⟩ := reads_index (Mo := []) tsl23 k ba
   obtain ⟨U, X, rfl, bi⟩ := an
   refine x_indexAddr (xv := Vl p g q) (yv := Vi C) (.pointer (some aC)) R R R R a7 (x_load (xv := .pointer (some aC)) (.agg #[Vl U L X]) R R R (reads_agg tagg31 aZ (fun _ b => by cases b)) ?_)
   refine x_alloc (z := .agg #[.slice none 0 0]) R R (by kernel_rfl) (fun O bb aw Y aq bj => ?_)
   replace Y : bb.heap[O]? = some (.cells #[.slice none 0 0] 31 (0, 0)) := Y
   refine inl1 ?_
   have h := Stp.box (ls := [d]) aq aw
   replace k := k.step h
   replace n := n.step h
   replace f := f.box aq aw Y
   replace o := o.box i.size aw
   replace i := i.ext aq
   obtain ⟨bc, a3, aU, ar⟩ := store_boxagg 0 [Vl U L X] #[Vl U L X] tagg31 Y R R R
   refine x_store bc (xv := Vp O 0) (yv := .agg #[Vl U L X]) R R R R a3 (inl1 ?_)
   have h := Stp.ev' (ls := [[O], d]) ar (mem_flat 0 R)
   replace k := k.step h
   replace n := n.step h
   replace f := f.ev ar
   replace i := i.then ar (fun I J => .inr (o.at 0 R I J))
   replace Y := aU
   refine x_ek (c_sp (x_fieldAddr (xv := Vp O 0) (Vp O 0) R R R (reads_field tfld31_0 _ _) (x_load (xv := Vp O 0) (Vl U L X) R R R (reads_box tcell29 Y nn 0 _ R) (x_len (vs := [Vl U L X]) (Vi ((L).length : Int)) R R R (reads_len tsl29 _ _ _ _ _) (x_u 1 [(32, .bool (decide (((L).length : Int) > 32)))] (x_ek (c_if (decide (((L).length : Int) > 32)) R b (fun b => ?_) (fun b => ?_))))))))
   · refine c_sp (x_u 2 [(4, .slice none 0 0), (5, Vi 3)] (x_ek (c_ret (k_block_ret (k_then_ret ?_)))))
     obtain rfl := some_inj b
     have K := some_inj Z
     subst K
     replace b := aG
     refine k_then_ret (k_block_ret (k_then_ret (r_ret (r_vals [.slice none 0 0, Vi 3] ⟨R, R, trivial⟩ ?_))))
     obtain rfl := some_inj b
     have E := f.pick [none, some 1] [blk none, d] R
     have D := o.pick [none] [blk none] R
     exact ⟨none, 0, R, i, E, D, OwnS.nil _ _ _ _⟩
   refine c_skip (k_block (k_then (c_plain (x_u 2 [(33, Vi (i64.wrap (C + 1))), (25, Vi (i64.wrap (C + 1)))] (x_end R ?_)))))
   obtain rfl := some_inj b
   have ae := f.pick [some 1] [d] R
   have H := pick_sub (ls := [[O], d]) [some 1] [d] R
   replace k := k.sub H
   replace n := n.sub H
   replace f := ae
   replace o := o.pick [] [] R
   clear ae H
   exact k_then ⟨(ah, i64.wrap (C + 1)), ⟨R, R, R, R, R, trivial⟩, ⟨Z, i, f, o, k, n⟩, Nat.lt_succ_self _⟩
 refine c_exit (k_then_exit ?_)
 obtain rfl := some_inj b
 have K := some_inj Z
 subst K
 replace b := aG
 refine k_then_exit (k_block_in (k_then (c_nm [(0, Vl p g q), (1, Vl s m t)] (fun N => ?_))))
 refine c_sp (x_u 1 [(8, .slice none 0 0)] (x_ek (c_seq (c_sp (x_u 1 [(34, Vl s m t)] (x_len (vs := [Vl s m t]) (Vi ((m).length : Int)) R R R (reads_len tsl24 _ _ _ _ _) (x_u 1 [(36, Vi 0)] (x_ek (c_block ?_)))))))))
 have h := Stp.push (ls := [d]) (l := blk none) (Ev.refl [] aO) (fun _ b => by cases b) (fun _ b => by cases b)
 replace k := k.step h
 replace n := n.step h
 replace f := f.push (l := blk none) (Ev.refl [] _) (fun _ b => by cases b)
 replace o := o.push (l := blk none) (fun _ b => by cases b)
 have a1 := OwnS.nil (eIt4) 76 aO (fl [blk none, d])
 obtain ⟨aQ, ao, am⟩ := bind_some b
 obtain ⟨ag, ao⟩ := loop_some ao
 refine c_loop (loop_rule hmx (σ := Nat × (List (Int × Int × Int × Int)) × Int × Option Addr × Nat) (fun F => match F with | (_, v, A, j, y) => [(0, Vl p g q), (8, Vl j v y), (34, Vl s m t), (35, Vi ((m).length : Int)), (36, Vi A)]) (fun F x => match F with | (ay, v, A, j, y) => loopN (planner_Items_L14 g m) ay (v, A) = some aQ ∧ Ev [] w x ∧ MS x [blk j, d] ∧ FR w.heap.size [blk j] ∧ SlR (eSl eStr) x (fl [blk j, d]) p q g ∧ OwnS (eIt4) 76 x (fl [blk j, d]) j y v ∧ SlR (eProd eStr (eProd (eInt .i64) (eProd (eInt .i64) (eProd (eInt .i64) (eProd (eInt .i64) (eProd (eInt .i64) (eProd eBool eStr))))))) x (fl [blk j, d]) s t m) (fun F => F.1) (ag, ([] : List (Int × Int × Int × Int)), 0, none, 0) ⟨R, R, R, R, R, trivial⟩ ⟨ao, i, f, o, k, a1, n⟩ ?_)
 rintro ⟨ag, v, A, j, y⟩ N bp ⟨Q, i, f, o, k, u, n⟩
 rcases ag with _ | ag
 · exact (loopN_zero Q).elim
 obtain ⟨bm, b, Q⟩ := bind_some Q
 refine c_sp (x_u 1 [(37, .bool (decide (A < ((m).length : Int))))] (x_ek (c_nm [(0, Vl p g q), (8, Vl j v y), (34, Vl s m t), (35, Vi ((m).length : Int)), (36, Vi A), (37, .bool (decide (A < ((m).length : Int))))] (fun N => ?_))))
 refine c_seq (c_if (decide (A < ((m).length : Int))) R b (fun b => ?_) (fun b => ?_))
 · refine c_skip (k_then (c_seq (c_block (c_sp ?_))))
   obtain ⟨a, a9, b⟩ := bind_some b
   obtain ⟨aB, bf, a4, aY, an⟩ := reads_index (Mo := []) tsl24 n a9
   obtain ⟨_, _, rfl, rfl, ⟨_, _, rfl, rfl, ⟨_, _, rfl, rfl, ⟨_, _, rfl, rfl, ⟨_, _, rfl, rfl, ⟨_, _, rfl, rfl, ⟨_, _, rfl, rfl, rfl⟩⟩⟩⟩⟩⟩⟩ := an
   refine x_indexAddr (xv := Vl s m t) (yv := Vi A) (.pointer (some aB)) R R R R a4 (x_load (xv := .pointer (some aB)) (.agg #[Vs a.1, Vi a.2.1, Vi a.2.2.1, Vi a.2.2.2.1, Vi a.2.2.2.2.1, Vi a.2.2.2.2.2.1, .bool a.2.2.2.2.2.2.1, Vs a.2.2.2.2.2.2.2]) R R R (reads_agg tagg34 aY (fun _ b => by cases b)) ?_)
   refine x_alloc (z := .agg #[Vs ([] : List UInt8), Vi 0, Vi 0, Vi 0, Vi 0, Vi 0, .bool false, Vs ([] : List UInt8)]) R R (by kernel_rfl) (fun r bd ax B ai bk => ?_)
   replace B : bd.heap[r]? = some (.cells #[Vs ([] : List UInt8), Vi 0, Vi 0, Vi 0, Vi 0, Vi 0, .bool false, Vs ([] : List UInt8)] 34 (0, 0)) := B
   refine inl1 ?_
   have h := Stp.box (ls := [blk j, d]) ai ax
   replace k := k.step h
   replace u := u.step h ai nn2
   replace n := n.step h
   replace f := f.box ai ax B
   replace o := o.box i.size ax
   replace i := i.ext ai
   obtain ⟨aL, a5, aX, aj⟩ := store_boxagg 0 [Vs a.1, Vi a.2.1, Vi a.2.2.1, Vi a.2.2.2.1, Vi a.2.2.2.2.1, Vi a.2.2.2.2.2.1, .bool a.2.2.2.2.2.2.1, Vs a.2.2.2.2.2.2.2] #[Vs a.1, Vi a.2.1, Vi a.2.2.1, Vi a.2.2.2.1, Vi a.2.2.2.2.1, Vi a.2.2.2.2.2.1, .bool a.2.2.2.2.2.2.1, Vs a.2.2.2.2.2.2.2] tagg34 B R R R
   refine x_store aL (xv := Vp r 0) (yv := .agg #[Vs a.1, Vi a.2.1, Vi a.2.2.1, Vi a.2.2.2.1, Vi a.2.2.2.2.1, Vi a.2.2.2.2.2.1, .bool a.2.2.2.2.2.2.1, Vs a.2.2.2.2.2.2.2]) R R R R a5 (inl1 ?_)
   have h := Stp.ev' (ls := [[r], blk j, d]) aj (mem_flat 0 R)
   replace k := k.step h
   replace u := u.step h aj (f.apart 1 0 R R R)
   replace n := n.step h
   replace f := f.ev aj
   replace i := i.then aj (fun I J => .inr (o.at 0 R I J))
   replace B := aX
   refine x_ek (c_seq (c_sp (x_load (xv := Vp r 0) (.agg #[Vs a.1, Vi a.2.1, Vi a.2.2.1, Vi a.2.2.2.1, Vi a.2.2.2.2.1, Vi a.2.2.2.2.2.1, .bool a.2.2.2.2.2.2.1, Vs a.2.2.2.2.2.2.2]) R R R (reads_boxagg 0 [Vs a.1, Vi a.2.1, Vi a.2.2.1, Vi a.2.2.2.1, Vi a.2.2.2.2.1, Vi a.2.2.2.2.2.1, .bool a.2.2.2.2.2.2.1, Vs a.2.2.2.2.2.2.2] tagg34 B nn R) ?_)))
   obtain ⟨S, af, b⟩ := bind_some b
   have ab := consist_Valid_w a.1 a.2.1 a.2.2.1 a.2.2.2.1 a.2.2.2.2.1 a.2.2.2.2.2.1 a.2.2.2.2.2.2.1 a.2.2.2.2.2.2.2 _ aL af
   refine x_call 43 #[] #[] [.agg #[Vs a.1, Vi a.2.1, Vi a.2.2.1, Vi a.2.2.2.1, Vi a.2.2.2.2.1, Vi a.2.2.2.2.2.1, .bool a.2.2.2.2.2.2.1, Vs a.2.2.2.2.2.2.2]] _ R R R R ab ?_
   rintro az be ⟨rfl, ac⟩
   clear ab af
   refine inl1 ?_
   have h := Stp.ext (ls := [[r], blk j, d]) ac
   replace k := k.step h
   replace u := u.step h ac nn2
   replace n := n.step h
   replace B := ac.box B nn
   replace f := f.ev ac
   replace i := i.ext ac
   refine x_u 1 [(11, Vi S)] (x_ek (c_sp (x_u 2 [(42, Vi S), (43, .bool (S != 0))] (x_ek (c_if (S != 0) R b (fun b => ?_) (fun b => ?_))))))
   · refine c_sp (x_u 3 [(44, Vi S), (4, .slice none 0 0), (5, Vi S)] (x_ek (c_ret (k_then_ret (k_block_ret (k_then_ret ?_))))))
     obtain rfl := some_inj b
     have K := some_inj Q
     subst K
     replace b := am
     refine k_then_ret (k_block_ret (k_then_ret (r_ret (r_vals [.slice none 0 0, Vi S] ⟨R, R, trivial⟩ ?_))))
     obtain rfl := some_inj b
     have E := f.pick [none, some 2] [blk none, d] R
     have D := o.pick [none] [blk none] R
     exact ⟨none, 0, R, i, E, D, OwnS.nil _ _ _ _⟩
   refine c_skip (k_then (c_sp (x_u 1 [(46, Vl p g q)] (x_fieldAddr (xv := Vp r 0) (Vp r 7) R R R (reads_field tfld34_7 _ _) (x_load (xv := Vp r 7) (Vs a.2.2.2.2.2.2.2) R R R (reads_box tcell9 B nn 7 _ R) ?_)))))
   obtain ⟨e, af, b⟩ := bind_some b
   have ab := planner_find_w p q g a.2.2.2.2.2.2.2 _ be (fl [[r], blk j, d]) (MS.fold (P := []) f) (k.sub fl1) af
   refine x_call 44 #[] #[] [Vl p g q, Vs a.2.2.2.2.2.2.2] _ R R R R ab ?_
   rintro az bo ⟨rfl, ad⟩
   clear ab af
   refine inl1 ?_
   have h := Stp.ext (ls := [[r], blk j, d]) ad
   replace k := k.step h
   replace u := u.step h ad nn2
   replace n := n.step h
   replace B := ad.box B nn
   replace f := f.ev ad
   replace i := i.ext ad
   refine x_u 7 [(45, .tuple #[Vi e.1, Vi e.2.1, .bool e.2.2]), (50, Vi e.1), (51, Vi e.2.1), (52, .bool e.2.2), (12, Vi e.1), (13, Vi e.2.1), (14, .bool e.2.2)] (x_ek (c_nm [(0, Vl p g q), (8, Vl j v y), (10, Vp r 0), (12, Vi e.1), (13, Vi e.2.1), (14, .bool e.2.2), (34, Vl s m t), (35, Vi ((m).length : Int)), (36, Vi A)] (fun N => ?_)))
   refine c_seq (c_sp (x_u 2 [(53, .bool e.2.2), (54, .bool (!e.2.2))] (x_ek (c_if (!e.2.2) R b (fun b => ?_) (fun b => ?_)))))
   · refine c_sp (x_u 2 [(4, .slice none 0 0), (5, Vi 13)] (x_ek (c_ret (k_then_ret (k_block_ret (k_then_ret ?_))))))
     obtain rfl := some_inj b
     have K := some_inj Q
     subst K
     replace b := am
     refine k_then_ret (k_block_ret (k_then_ret (r_ret (r_vals [.slice none 0 0, Vi 13] ⟨R, R, trivial⟩ ?_))))
     obtain rfl := some_inj b
     have E := f.pick [none, some 2] [blk none, d] R
     have D := o.pick [none] [blk none] R
     exact ⟨none, 0, R, i, E, D, OwnS.nil _ _ _ _⟩
   refine c_skip (k_then (c_plain (x_u 3 [(55, Vl j v y), (56, Vi e.1), (57, Vi e.2.1)] (x_fieldAddr (xv := Vp r 0) (Vp r 1) R R R (reads_field tfld34_1 _ _) (x_load (xv := Vp r 1) (Vi a.2.1) R R R (reads_box tcell3 B nn 1 _ R) (x_build (vs := [(0, Vi e.1), (1, Vi e.2.1), (3, Vi a.2.1)]) (.agg #[Vi e.1, Vi e.2.1, Vi 0, Vi a.2.1]) R R R (fun _ _ => by kernel_rfl) ?_))))))
   refine x_buildSlice (vs := [(0, .agg #[Vi e.1, Vi e.2.1, Vi 0, Vi a.2.1])]) #[Vi e.1, Vi e.2.1, Vi 0, Vi a.2.1] 76 R R R (by kernel_rfl) (fun aD aN a2 aH ak bl => ?_)
   refine inl1 ?_
   have aJ := f
   have h := Stp.ext (ls := [[r], blk j, d]) ak
   replace k := k.step h
   replace u := u.step h ak nn2
   replace n := n.step h
   replace f := f.ev ak
   replace i := i.ext ak
   have a8 : SlR (eIt4) aN (fl [[r], blk j, d]) (Ad aD 0) 1 ([(e.1, e.2.1, 0, a.2.1)] : List (Int × Int × Int × Int)) := ro_of_box aJ a2 aH R R (cells_at (cs := [Vi e.1, Vi e.2.1, Vi 0, Vi a.2.1]) (CellsOf.cons (c := [Vi e.1, Vi e.2.1, Vi 0, Vi a.2.1]) ⟨[Vi e.1], [Vi e.2.1, Vi 0, Vi a.2.1], R, R, ⟨[Vi e.2.1], [Vi 0, Vi a.2.1], R, R, ⟨[Vi 0], [Vi a.2.1], R, R, R⟩⟩⟩ CellsOf.nil))
   clear aH aJ
   have a0 := guard_l b
   replace b := guard_r b
   obtain ⟨G, aF, aA, a6, au, av, bh, aK⟩ := own_appendN tel36 36 u (mem_flat 1 R) a8 a0
   refine x_builtin (vs := [Vl j v y, .slice (Ad aD 0) (([(e.1, e.2.1, 0, a.2.1)] : List (Int × Int × Int × Int))).length 1]) _ aA R R R R (run_value _ _ _ _ a6) (inl1 ?_)
   have h : Stp (fl [[r], blk j, d]) aN (fl [[r], blk G, d]) aA := Stp.upd 1 au R (fun I J => (av I J).1)
   replace k := k.step h
   replace n := n.step h
   replace f : MS aA [[r], blk G, d] := f.upd 1 au R av
   have aI : FR w.heap.size [[r], blk G] := o.upd 1 R i.size (fun I J => (av I J).1)
   replace i := i.then au (fun I J => .inr (o.at 1 R I J))
   replace o := aI
   clear aI
   replace u := aK (fl [[r], blk G, d]) h.new
   clear aK
   refine x_u 1 [(8, .slice G ((v ++ ([(e.1, e.2.1, 0, a.2.1)] : List (Int × Int × Int × Int)))).length aF)] (x_end R (k_block (k_then (c_plain (x_u 2 [(63, Vi (i64.wrap (A + 1))), (36, Vi (i64.wrap (A + 1)))] (x_end R ?_))))))
   obtain rfl := some_inj b
   have ae := f.pick [some 1, some 2] [blk G, d] R
   have H := pick_sub (ls := [[r], blk G, d]) [some 1, some 2] [blk G, d] R
   replace k := k.sub H
   replace u := u.sub H
   replace n := n.sub H
   replace f := ae
   replace o := o.pick [some 1] [blk G] R
   clear ae H
   exact k_then ⟨(ag, (v ++ ([(e.1, e.2.1, 0, a.2.1)] : List (Int × Int × Int × Int))), i64.wrap (A + 1), G, aF), ⟨R, R, R, R, R, trivial⟩, ⟨Q, i, f, o, k, u, n⟩, Nat.lt_succ_self _⟩
 refine c_exit (k_then_exit ?_)
 obtain rfl := some_inj b
 have K := some_inj Q
 subst K
 replace b := am
 refine k_then_exit (k_block_in (k_then (c_nm [(8, Vl j v y)] (fun N => ?_))))
 refine c_sp (x_u 3 [(64, Vl j v y), (4, Vl j v y), (5, Vi 0)] (x_ek (c_ret (r_ret (r_vals [Vl j v y, Vi 0] ⟨R, R, trivial⟩ ?_)))))
 obtain rfl := some_inj b
 have E := f.pick [some 0, some 1] [blk j, d] R
 have H := pick_sub (ls := [blk j, d]) [some 0, some 1] [blk j, d] R
 have D := o.pick [some 0] [blk j] R
 exact ⟨j, y, R, i, E, D, u.sub H⟩
end Go.Proofs.YtlejnkhaphlooaaGreat
