
/- Walks, printed by program: each function returns what the partial function of the same name returns. Conditions: those of each theorem. -/
import Derived.Test.YtlejnkhaphlooaaGreatGT
import Derived.Test.YtlejnkhaphlooaaGreatGlaw17items
import Derived.Test.YtlejnkhaphlooaaGreatGplanner
set_option linter.unusedVariables false
set_option linter.unusedSimpArgs false
set_option maxRecDepth 4000
namespace Go.Proofs.YtlejnkhaphlooaaGreat
open Go Go.V Go.Proofs Go.IntKind
def law17_sane : Option Bool :=
((law17_items ([0, 0, 1])).bind fun e =>
((planner_Schemes e).bind fun c =>
((law17_items ([1, 3, 0, 2])).bind fun d =>
((planner_Plan d ([500, 500, 500])).bind fun b =>
((planner_Items ([(([([98] : List UInt8)] : List (List UInt8)))] : List (List (List UInt8))) ([(([51, 49, 56, 48, 50, 55, 55, 51, 49, 50, 51, 55] : List UInt8), 100, 2, 100, 0, 0, false, ([97] : List UInt8))] : List ((List UInt8) × Int × Int × Int × Int × Int × Bool × (List UInt8)))).bind fun f =>
(if (c.2 == 0) = true then
(if (((c.1).length : Int) == 4) = true then
((idx c.1 0).bind fun a =>
(if (a.1 == 0 && (a.2.1 == 0 && (a.2.2.1 == 3 && (a.2.2.2 == 1 && true)))) = true then
(if (b.2.2 == 0) = true then
(if (b.1.1.2 == 1) = true then
(if (b.1.2.1.1.1 == 2) = true then
some (f.2 == 13)
else
some false)
else
some false)
else
some false)
else
some false))
else
some false)
else
some false))))))
theorem law17_sane_w (aJ : Bool) (o : World) (d : law17_sane = some aJ) : CallVC Tryz.prog 18 [] o fun I bh => I = .bool aJ ∧ Ev [] o bh := by
 refine calls_vc hmx Tryz.func18 (by kernel_rfl) R (rs := [.tmp 0]) R (by kernel_rfl) (args := []) R ?_
 have f : Ev [] o o := Ev.refl _ _
 have a : MS o [[]] := ⟨List.pairwise_singleton _ _, fun bD aI au ae => by simp only [List.mem_singleton] at aI; subst aI; cases ae⟩
 have h : FR o.heap.size [] := FR.nil _
 refine c_sp (x_u 1 [(0, .bool false)] (x_ek (c_sp (x_buildSlice (vs := [(0, Vi 0), (1, Vi 0), (2, Vi 1)]) #[Vi 0, Vi 0, Vi 1] 3 R R R (by kernel_rfl) (fun X aK a4 ax aD bv => ?_)))))
 refine inl1 ?_
 have r := a
 replace a := a.ev aD
 replace f := f.ext aD
 have bc : SlR (eInt .i64) aK (fl [[]]) (Ad X 0) 3 ([0, 0, 1]) := ro_of_box r a4 ax R R (cells_at (cs := [Vi 0, Vi 0, Vi 1]) (CellsOf.cons (c := [Vi 0]) R (CellsOf.cons (c := [Vi 0]) R (CellsOf.cons (c := [Vi 1]) R CellsOf.nil))))
 clear ax r
 obtain ⟨aS, v, d⟩ := bind_some d
 have u := law17_items_w (Ad X 0) 3 ([0, 0, 1]) _ aK (fl [[]]) (MS.fold (P := []) a) (bc.sub fl1) v
 refine x_call 30 #[] #[] [.slice (Ad X 0) ([0, 0, 1]).length 3] _ R R R R u ?_
 rintro I bm ⟨F, aw, rfl, aE, a2, aG, O⟩
 clear u v
 refine inl1 ?_
 replace a := MS.call0 [blk F] [blk F, []] a aE a2 aG R
 have A := FR.call0 [blk F] f.size aG h R
 replace f := f.ext aE
 replace h := A
 clear A
 replace O := OwnS.plain (M' := fl [blk F, []]) (plain_prod (plain_int _) (plain_prod (plain_int _) (plain_prod (plain_int _) (plain_int _)))) O
 have n := a.pick [some 1] [[]] R
 have i := pick_sub (ls := [blk F, []]) [some 1] [[]] R
 replace O := O.ro i (pick_out a 0 R [some 1] [[]] R R)
 replace a := n
 replace h := h.pick [] [] R
 clear n i
 obtain ⟨p, v, d⟩ := bind_some d
 have u := planner_Schemes_w F aw aS _ bm (fl [[]]) (MS.fold (P := []) a) (O.sub fl1) v
 refine x_call 20 #[] #[] [Vl F aS aw] _ R R R R u ?_
 rintro I bH ⟨w, D, rfl, aF, a3, aH, e⟩
 clear u v
 refine inl1 ?_
 replace a := MS.call0 [blk w] [blk w, []] a aF a3 aH R
 have A := FR.call0 [blk w] f.size aH h R
 replace f := f.ext aF
 replace h := A
 clear A
 replace e := OwnS.plain (M' := fl [blk w, []]) (plain_prod (plain_int _) (plain_prod (plain_int _) (plain_prod (plain_int _) (plain_int _)))) e
 have n := a.pick [some 1] [[]] R
 have i := pick_sub (ls := [blk w, []]) [some 1] [[]] R
 replace e := e.ro i (pick_out a 0 R [some 1] [[]] R R)
 replace a := n
 replace h := h.pick [] [] R
 clear n i
 refine x_u 5 [(8, .tuple #[Vl w p.1 D, Vi p.2]), (12, Vl w p.1 D), (13, Vi p.2), (1, Vl w p.1 D), (2, Vi p.2)] (x_ek (c_sp (x_buildSlice (vs := [(0, Vi 1), (1, Vi 3), (2, Vi 0), (3, Vi 2)]) #[Vi 1, Vi 3, Vi 0, Vi 2] 3 R R R (by kernel_rfl) (fun ab aO a9 aC al bC => ?_))))
 refine inl1 ?_
 have r := a
 have k := Stp.ext (ls := [[]]) al
 replace e := e.step k
 replace a := a.ev al
 replace f := f.ext al
 have bf : SlR (eInt .i64) aO (fl [[]]) (Ad ab 0) 4 ([1, 3, 0, 2]) := ro_of_box r a9 aC R R (cells_at (cs := [Vi 1, Vi 3, Vi 0, Vi 2]) (CellsOf.cons (c := [Vi 1]) R (CellsOf.cons (c := [Vi 3]) R (CellsOf.cons (c := [Vi 0]) R (CellsOf.cons (c := [Vi 2]) R CellsOf.nil)))))
 clear aC r
 obtain ⟨aQ, v, d⟩ := bind_some d
 have u := law17_items_w (Ad ab 0) 4 ([1, 3, 0, 2]) _ aO (fl [[]]) (MS.fold (P := []) a) (bf.sub fl1) v
 refine x_call 30 #[] #[] [.slice (Ad ab 0) ([1, 3, 0, 2]).length 4] _ R R R R u ?_
 rintro I bE ⟨B, av, rfl, af, a0, am, G⟩
 clear u v
 refine inl1 ?_
 have k := Stp.call0 [[]] [blk B] [blk B, []] af am R
 replace e := e.step k
 replace a := MS.call0 [blk B] [blk B, []] a af a0 am R
 have A := FR.call0 [blk B] f.size am h R
 replace f := f.ext af
 replace h := A
 clear A
 replace G := OwnS.plain (M' := fl [blk B, []]) (plain_prod (plain_int _) (plain_prod (plain_int _) (plain_prod (plain_int _) (plain_int _)))) G
 clear k
 have n := a.pick [some 1] [[]] R
 have i := pick_sub (ls := [blk B, []]) [some 1] [[]] R
 replace e := e.sub i
 replace G := G.ro i (pick_out a 0 R [some 1] [[]] R R)
 replace a := n
 replace h := h.pick [] [] R
 clear n i
 refine x_buildSlice (vs := [(0, Vi 500), (1, Vi 500), (2, Vi 500)]) #[Vi 500, Vi 500, Vi 500] 3 R R R (by kernel_rfl) (fun Y aL a5 ay ag bw => ?_)
 refine inl1 ?_
 have r := a
 have k := Stp.ext (ls := [[]]) ag
 replace e := e.step k
 replace G := G.step k
 replace a := a.ev ag
 replace f := f.ext ag
 have bd : SlR (eInt .i64) aL (fl [[]]) (Ad Y 0) 3 ([500, 500, 500]) := ro_of_box r a5 ay R R (cells_at (cs := [Vi 500, Vi 500, Vi 500]) (CellsOf.cons (c := [Vi 500]) R (CellsOf.cons (c := [Vi 500]) R (CellsOf.cons (c := [Vi 500]) R CellsOf.nil))))
 clear ay r
 obtain ⟨b, v, d⟩ := bind_some d
 have u := planner_Plan_w B av aQ (Ad Y 0) 3 ([500, 500, 500]) _ aL (fl [[]]) (MS.fold (P := []) a) (G.sub fl1) (bd.sub fl1) v
 refine x_call 25 #[] #[] [Vl B aQ av, .slice (Ad Y 0) ([500, 500, 500]).length 3] _ R R R R u ?_
 rintro I bF ⟨y, J, s, K, q, L, m, N, j, ad, rfl, ah, a1, an, bo, bp, bq, br, bs⟩
 clear u v
 refine inl1 ?_
 have k := Stp.call0 [[]] [blk y, blk s, blk q, blk m, blk j] [blk y, blk s, blk q, blk m, blk j, []] ah an R
 replace e := e.step k
 replace a := MS.call0 [blk y, blk s, blk q, blk m, blk j] [blk y, blk s, blk q, blk m, blk j, []] a ah a1 an R
 have A := FR.call0 [blk y, blk s, blk q, blk m, blk j] f.size an h R
 replace f := f.ext ah
 replace h := A
 clear A
 clear k
 have n := a.pick [some 1, some 2, some 3, some 4, some 5] [blk s, blk q, blk m, blk j, []] R
 have i := pick_sub (ls := [blk y, blk s, blk q, blk m, blk j, []]) [some 1, some 2, some 3, some 4, some 5] [blk s, blk q, blk m, blk j, []] R
 replace e := e.sub i
 replace a := n
 replace h := h.pick [some 1, some 2, some 3, some 4] [blk s, blk q, blk m, blk j] R
 clear n i
 have n := a.pick [some 1, some 2, some 3, some 4] [blk q, blk m, blk j, []] R
 have i := pick_sub (ls := [blk s, blk q, blk m, blk j, []]) [some 1, some 2, some 3, some 4] [blk q, blk m, blk j, []] R
 replace e := e.sub i
 replace a := n
 replace h := h.pick [some 1, some 2, some 3] [blk q, blk m, blk j] R
 clear n i
 have n := a.pick [some 1, some 2, some 3] [blk m, blk j, []] R
 have i := pick_sub (ls := [blk q, blk m, blk j, []]) [some 1, some 2, some 3] [blk m, blk j, []] R
 replace e := e.sub i
 replace a := n
 replace h := h.pick [some 1, some 2] [blk m, blk j] R
 clear n i
 have n := a.pick [some 1, some 2] [blk j, []] R
 have i := pick_sub (ls := [blk m, blk j, []]) [some 1, some 2] [blk j, []] R
 replace e := e.sub i
 replace a := n
 replace h := h.pick [some 1] [blk j] R
 clear n i
 have n := a.pick [some 1] [[]] R
 have i := pick_sub (ls := [blk j, []]) [some 1] [[]] R
 replace e := e.sub i
 replace a := n
 replace h := h.pick [] [] R
 clear n i
 refine x_u 4 [(14, .tuple #[.agg #[Vl y b.1.1.1 J, Vi b.1.1.2, Vi b.1.2.1.1.1, Vl s b.1.2.1.1.2 K, Vl q b.1.2.1.2 L, Vl m b.1.2.2 N], Vl j b.2.1 ad, Vi b.2.2]), (19, .agg #[Vl y b.1.1.1 J, Vi b.1.1.2, Vi b.1.2.1.1.1, Vl s b.1.2.1.1.2 K, Vl q b.1.2.1.2 L, Vl m b.1.2.2 N]), (20, Vl j b.2.1 ad), (21, Vi b.2.2)] (x_alloc (z := .agg #[.slice none 0 0, Vi 0, Vi 0, .slice none 0 0, .slice none 0 0, .slice none 0 0]) R R (by kernel_rfl) (fun g bi ao t ai bx => ?_))
 replace t : bi.heap[g]? = some (.cells #[.slice none 0 0, Vi 0, Vi 0, .slice none 0 0, .slice none 0 0, .slice none 0 0] 67 (0, 0)) := t
 refine inl1 ?_
 have k := Stp.box (ls := [[]]) ai ao
 replace e := e.step k
 replace a := a.box ai ao t
 replace h := h.box f.size ao
 replace f := f.ext ai
 obtain ⟨bj, ba, aX, aj⟩ := store_boxagg 0 [Vl y b.1.1.1 J, Vi b.1.1.2, Vi b.1.2.1.1.1, Vl s b.1.2.1.1.2 K, Vl q b.1.2.1.2 L, Vl m b.1.2.2 N] #[Vl y b.1.1.1 J, Vi b.1.1.2, Vi b.1.2.1.1.1, Vl s b.1.2.1.1.2 K, Vl q b.1.2.1.2 L, Vl m b.1.2.2 N] tagg67 t R R R
 refine x_store bj (xv := Vp g 0) (yv := .agg #[Vl y b.1.1.1 J, Vi b.1.1.2, Vi b.1.2.1.1.1, Vl s b.1.2.1.1.2 K, Vl q b.1.2.1.2 L, Vl m b.1.2.2 N]) R R R R ba (inl1 ?_)
 have k := Stp.ev' (ls := [[g], []]) aj (mem_flat 0 R)
 replace e := e.step k
 replace a := a.ev aj
 replace f := f.then aj (fun au ae => .inr (h.at 0 R au ae))
 replace t := aX
 refine x_u 2 [(4, Vl j b.2.1 ad), (5, Vi b.2.2)] (x_ek (c_nm [(1, Vl w p.1 D), (2, Vi p.2), (3, Vp g 0), (5, Vi b.2.2)] (fun E => ?_)))
 refine c_sp (x_buildSlice (vs := [(0, Vs ([98] : List UInt8))]) #[Vs ([98] : List UInt8)] 9 R R R (by kernel_rfl) (fun C bk a6 az Q bz => ?_))
 refine inl1 ?_
 have r := a
 have k := Stp.ext (ls := [[g], []]) Q
 replace e := e.step k
 replace t := Q.box t nn
 replace a := a.ev Q
 replace f := f.ext Q
 have ap : SlR eStr bk (fl [[g], []]) (Ad C 0) 1 ([([98] : List UInt8)] : List (List UInt8)) := ro_of_box r a6 az R R (cells_at (cs := [Vs ([98] : List UInt8)]) (CellsOf.cons (c := [Vs ([98] : List UInt8)]) R CellsOf.nil))
 clear az r
 refine x_build (vs := [(0, .slice (Ad C 0) (([([98] : List UInt8)] : List (List UInt8))).length 1)]) (.agg #[.slice (Ad C 0) (([([98] : List UInt8)] : List (List UInt8))).length 1]) R R R (fun _ _ => by kernel_rfl) ?_
 refine x_buildSlice (vs := [(0, .agg #[.slice (Ad C 0) (([([98] : List UInt8)] : List (List UInt8))).length 1])]) #[.slice (Ad C 0) (([([98] : List UInt8)] : List (List UInt8))).length 1] 31 R R R (by kernel_rfl) (fun Z bl a7 aA S bA => ?_)
 refine inl1 ?_
 have r := a
 have k := Stp.ext (ls := [[g], []]) S
 replace e := e.step k
 replace t := S.box t nn
 replace ap := ap.step k
 replace a := a.ev S
 replace f := f.ext S
 have aq : SlR (eSl eStr) bl (fl [[g], []]) (Ad Z 0) 1 ([(([([98] : List UInt8)] : List (List UInt8)))] : List (List (List UInt8))) := ro_of_box r a7 aA R R (cells_at (cs := [.slice (Ad C 0) (([([98] : List UInt8)] : List (List UInt8))).length 1]) (CellsOf.cons (c := [.slice (Ad C 0) (([([98] : List UInt8)] : List (List UInt8))).length 1]) ⟨(Ad C 0), 1, R, ap⟩ CellsOf.nil))
 clear aA r
 refine x_build (vs := [(0, Vs ([51, 49, 56, 48, 50, 55, 55, 51, 49, 50, 51, 55] : List UInt8)), (1, Vi 100), (2, Vi 2), (3, Vi 100), (7, Vs ([97] : List UInt8))]) (.agg #[Vs ([51, 49, 56, 48, 50, 55, 55, 51, 49, 50, 51, 55] : List UInt8), Vi 100, Vi 2, Vi 100, Vi 0, Vi 0, .bool false, Vs ([97] : List UInt8)]) R R R (fun _ _ => by kernel_rfl) ?_
 refine x_buildSlice (vs := [(0, .agg #[Vs ([51, 49, 56, 48, 50, 55, 55, 51, 49, 50, 51, 55] : List UInt8), Vi 100, Vi 2, Vi 100, Vi 0, Vi 0, .bool false, Vs ([97] : List UInt8)])]) #[Vs ([51, 49, 56, 48, 50, 55, 55, 51, 49, 50, 51, 55] : List UInt8), Vi 100, Vi 2, Vi 100, Vi 0, Vi 0, .bool false, Vs ([97] : List UInt8)] 34 R R R (by kernel_rfl) (fun aa aN a8 aB U bB => ?_)
 refine inl1 ?_
 have r := a
 have k := Stp.ext (ls := [[g], []]) U
 replace e := e.step k
 replace t := U.box t nn
 replace aq := aq.step k
 replace a := a.ev U
 replace f := f.ext U
 have be : SlR (eProd eStr (eProd (eInt .i64) (eProd (eInt .i64) (eProd (eInt .i64) (eProd (eInt .i64) (eProd (eInt .i64) (eProd eBool eStr))))))) aN (fl [[g], []]) (Ad aa 0) 1 ([(([51, 49, 56, 48, 50, 55, 55, 51, 49, 50, 51, 55] : List UInt8), 100, 2, 100, 0, 0, false, ([97] : List UInt8))] : List ((List UInt8) × Int × Int × Int × Int × Int × Bool × (List UInt8))) := ro_of_box r a8 aB R R (cells_at (cs := [Vs ([51, 49, 56, 48, 50, 55, 55, 51, 49, 50, 51, 55] : List UInt8), Vi 100, Vi 2, Vi 100, Vi 0, Vi 0, .bool false, Vs ([97] : List UInt8)]) (CellsOf.cons (c := [Vs ([51, 49, 56, 48, 50, 55, 55, 51, 49, 50, 51, 55] : List UInt8), Vi 100, Vi 2, Vi 100, Vi 0, Vi 0, .bool false, Vs ([97] : List UInt8)]) ⟨[Vs ([51, 49, 56, 48, 50, 55, 55, 51, 49, 50, 51, 55] : List UInt8)], [Vi 100, Vi 2, Vi 100, Vi 0, Vi 0, .bool false, Vs ([97] : List UInt8)], R, R, ⟨[Vi 100], [Vi 2, Vi 100, Vi 0, Vi 0, .bool false, Vs ([97] : List UInt8)], R, R, ⟨[Vi 2], [Vi 100, Vi 0, Vi 0, .bool false, Vs ([97] : List UInt8)], R, R, ⟨[Vi 100], [Vi 0, Vi 0, .bool false, Vs ([97] : List UInt8)], R, R, ⟨[Vi 0], [Vi 0, .bool false, Vs ([97] : List UInt8)], R, R, ⟨[Vi 0], [.bool false, Vs ([97] : List UInt8)], R, R, ⟨[.bool false], [Vs ([97] : List UInt8)], R, R, R⟩⟩⟩⟩⟩⟩⟩ CellsOf.nil))
 clear aB r
 obtain ⟨x, v, d⟩ := bind_some d
 have u := planner_Items_w (Ad Z 0) 1 ([(([([98] : List UInt8)] : List (List UInt8)))] : List (List (List UInt8))) (Ad aa 0) 1 ([(([51, 49, 56, 48, 50, 55, 55, 51, 49, 50, 51, 55] : List UInt8), 100, 2, 100, 0, 0, false, ([97] : List UInt8))] : List ((List UInt8) × Int × Int × Int × Int × Int × Bool × (List UInt8))) _ aN (fl [[g], []]) (MS.fold (P := []) a) (aq.sub fl1) (be.sub fl1) v
 refine x_call 15 #[] #[] [.slice (Ad Z 0) (([(([([98] : List UInt8)] : List (List UInt8)))] : List (List (List UInt8)))).length 1, .slice (Ad aa 0) (([(([51, 49, 56, 48, 50, 55, 55, 51, 49, 50, 51, 55] : List UInt8), 100, 2, 100, 0, 0, false, ([97] : List UInt8))] : List ((List UInt8) × Int × Int × Int × Int × Int × Bool × (List UInt8)))).length 1] _ R R R R u ?_
 rintro I bG ⟨H, ac, rfl, ak, bu, aZ, bt⟩
 clear u v
 refine inl1 ?_
 have k := Stp.call0 [[g], []] [blk H] [blk H, [g], []] ak aZ R
 replace e := e.step k
 replace t := ak.box t nn
 replace f := f.ext ak
 clear k
 have i := pick_sub (ls := [blk H, [g], []]) [some 1, some 2] [[g], []] R
 replace e := e.sub i
 clear i
 refine x_u 5 [(22, .tuple #[Vl H x.1 ac, Vi x.2]), (29, Vl H x.1 ac), (30, Vi x.2), (6, Vl H x.1 ac), (7, Vi x.2)] (x_ek (c_sp (x_u 3 [(31, Vi p.2), (32, .bool (p.2 == 0)), (33, .bool (p.2 == 0))] (x_if 33 (p.2 == 0) R d (fun d => ?_) (fun d => ?_)))))
 · refine x_u 1 [(34, Vl w p.1 D)] (x_len (vs := [Vl w p.1 D]) (Vi ((p.1).length : Int)) R R R (reads_len tsl44 _ _ _ _ _) (x_u 3 [(36, .bool (((p.1).length : Int) == 4)), (37, .bool (((p.1).length : Int) == 4)), (38, .bool (((p.1).length : Int) == 4))] (x_if 38 (((p.1).length : Int) == 4) R d (fun d => ?_) (fun d => ?_))))
   · refine x_u 1 [(39, Vl w p.1 D)] ?_
     obtain ⟨l, bg, d⟩ := bind_some d
     obtain ⟨ar, bn, bb, aY, aU⟩ := reads_index (Mo := []) tsl44 e bg
     obtain ⟨_, _, rfl, rfl, ⟨_, _, rfl, rfl, ⟨_, _, rfl, rfl, rfl⟩⟩⟩ := aU
     refine x_indexAddr (xv := Vl w p.1 D) (yv := Vi 0) (.pointer (some ar)) R R R R bb (x_load (xv := .pointer (some ar)) (.agg #[Vi l.1, Vi l.2.1, Vi l.2.2.1, Vi l.2.2.2]) R R R (reads_agg tagg48 aY (fun _ d => by cases d)) ?_)
     refine x_build (vs := [(0, Vi 0), (1, Vi 0), (2, Vi 3), (3, Vi 1)]) (.agg #[Vi 0, Vi 0, Vi 3, Vi 1]) R R R (fun _ _ => by kernel_rfl) ?_
     refine x_binop (.bool (l.1 == 0 && (l.2.1 == 0 && (l.2.2.1 == 3 && (l.2.2.2 == 1 && true))))) (.agg #[Vi l.1, Vi l.2.1, Vi l.2.2.1, Vi l.2.2.2]) (.agg #[Vi 0, Vi 0, Vi 3, Vi 1]) R R R R (bin_aggeq Tryz.underlying48 (by kernel_rfl) (by kernel_rfl) (fun _ => (eqF_cell (by kernel_rfl) (fun o => (tcell3 o).1) R R (fun o => eq_int tint3 _ _ o) (eqF_cell (by kernel_rfl) (fun o => (tcell3 o).1) R R (fun o => eq_int tint3 _ _ o) (eqF_cell (by kernel_rfl) (fun o => (tcell3 o).1) R R (fun o => eq_int tint3 _ _ o) (eqF_cell (by kernel_rfl) (fun o => (tcell3 o).1) R R (fun o => eq_int tint3 _ _ o) eqF_nil)))))) ?_
     refine x_u 2 [(44, .bool (l.1 == 0 && (l.2.1 == 0 && (l.2.2.1 == 3 && (l.2.2.2 == 1 && true))))), (45, .bool (l.1 == 0 && (l.2.1 == 0 && (l.2.2.1 == 3 && (l.2.2.2 == 1 && true)))))] (x_if 45 (l.1 == 0 && (l.2.1 == 0 && (l.2.2.1 == 3 && (l.2.2.2 == 1 && true)))) R d (fun d => ?_) (fun d => ?_))
     · refine x_u 4 [(46, Vi b.2.2), (47, .bool (b.2.2 == 0)), (48, .bool (b.2.2 == 0)), (49, .bool (b.2.2 == 0))] (x_if 49 (b.2.2 == 0) R d (fun d => ?_) (fun d => ?_))
       · refine x_fieldAddr (xv := Vp g 0) (Vp g 0) R R R (reads_field tfld67_0 _ _) (x_fieldAddr (xv := Vp g 0) (Vp g 1) R R R (reads_field tfld50_1 _ _) (x_load (xv := Vp g 1) (Vi b.1.1.2) R R R (reads_box tcell3 t nn 1 _ R) (x_u 3 [(53, .bool (b.1.1.2 == 1)), (54, .bool (b.1.1.2 == 1)), (55, .bool (b.1.1.2 == 1))] (x_if 55 (b.1.1.2 == 1) R d (fun d => ?_) (fun d => ?_)))))
         · refine x_fieldAddr (xv := Vp g 0) (Vp g 2) R R R (reads_field tfld67_1 _ _) (x_fieldAddr (xv := Vp g 2) (Vp g 2) R R R (reads_field tfld54_0 _ _) (x_fieldAddr (xv := Vp g 2) (Vp g 2) R R R (reads_field tfld52_0 _ _) (x_load (xv := Vp g 2) (Vi b.1.2.1.1.1) R R R (reads_box tcell3 t nn 2 _ R) (x_u 3 [(60, .bool (b.1.2.1.1.1 == 2)), (61, .bool (b.1.2.1.1.1 == 2)), (62, .bool (b.1.2.1.1.1 == 2))] (x_if 62 (b.1.2.1.1.1 == 2) R d (fun d => ?_) (fun d => ?_))))))
           · refine x_u 4 [(63, Vi x.2), (64, .bool (x.2 == 13)), (65, .bool (x.2 == 13)), (0, .bool (x.2 == 13))] (x_ek (c_nm [(0, .bool (x.2 == 13))] (fun E => ?_)))
             refine c_ret (r_ret (r_vals [.bool (x.2 == 13)] ⟨R, trivial⟩ ?_))
             obtain rfl := some_inj d
             exact ⟨R, f⟩
           refine x_u 4 [(63, undef), (64, undef), (65, .bool false), (0, .bool false)] (x_ek (c_nm [(0, .bool false)] (fun E => ?_)))
           refine c_ret (r_ret (r_vals [.bool false] ⟨R, trivial⟩ ?_))
           obtain rfl := some_inj d
           exact ⟨R, f⟩
         refine x_u 11 [(56, undef), (57, undef), (58, undef), (59, undef), (60, undef), (61, .bool false), (62, .bool false), (63, undef), (64, undef), (65, .bool false), (0, .bool false)] (x_ek (c_nm [(0, .bool false)] (fun E => ?_)))
         refine c_ret (r_ret (r_vals [.bool false] ⟨R, trivial⟩ ?_))
         obtain rfl := some_inj d
         exact ⟨R, f⟩
       refine x_u 17 [(50, undef), (51, undef), (52, undef), (53, undef), (54, .bool false), (55, .bool false), (56, undef), (57, undef), (58, undef), (59, undef), (60, undef), (61, .bool false), (62, .bool false), (63, undef), (64, undef), (65, .bool false), (0, .bool false)] (x_ek (c_nm [(0, .bool false)] (fun E => ?_)))
       refine c_ret (r_ret (r_vals [.bool false] ⟨R, trivial⟩ ?_))
       obtain rfl := some_inj d
       exact ⟨R, f⟩
     refine x_u 21 [(46, undef), (47, undef), (48, .bool false), (49, .bool false), (50, undef), (51, undef), (52, undef), (53, undef), (54, .bool false), (55, .bool false), (56, undef), (57, undef), (58, undef), (59, undef), (60, undef), (61, .bool false), (62, .bool false), (63, undef), (64, undef), (65, .bool false), (0, .bool false)] (x_ek (c_nm [(0, .bool false)] (fun E => ?_)))
     refine c_ret (r_ret (r_vals [.bool false] ⟨R, trivial⟩ ?_))
     obtain rfl := some_inj d
     exact ⟨R, f⟩
   refine x_u 28 [(39, undef), (40, undef), (41, undef), (42, undef), (43, undef), (44, .bool false), (45, .bool false), (46, undef), (47, undef), (48, .bool false), (49, .bool false), (50, undef), (51, undef), (52, undef), (53, undef), (54, .bool false), (55, .bool false), (56, undef), (57, undef), (58, undef), (59, undef), (60, undef), (61, .bool false), (62, .bool false), (63, undef), (64, undef), (65, .bool false), (0, .bool false)] (x_ek (c_nm [(0, .bool false)] (fun E => ?_)))
   refine c_ret (r_ret (r_vals [.bool false] ⟨R, trivial⟩ ?_))
   obtain rfl := some_inj d
   exact ⟨R, f⟩
 refine x_u 33 [(34, undef), (35, undef), (36, undef), (37, .bool false), (38, .bool false), (39, undef), (40, undef), (41, undef), (42, undef), (43, undef), (44, .bool false), (45, .bool false), (46, undef), (47, undef), (48, .bool false), (49, .bool false), (50, undef), (51, undef), (52, undef), (53, undef), (54, .bool false), (55, .bool false), (56, undef), (57, undef), (58, undef), (59, undef), (60, undef), (61, .bool false), (62, .bool false), (63, undef), (64, undef), (65, .bool false), (0, .bool false)] (x_ek (c_nm [(0, .bool false)] (fun E => ?_)))
 refine c_ret (r_ret (r_vals [.bool false] ⟨R, trivial⟩ ?_))
 obtain rfl := some_inj d
 exact ⟨R, f⟩
end Go.Proofs.YtlejnkhaphlooaaGreat
