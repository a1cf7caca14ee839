
/- Walks, printed by program: each function returns what the partial function of the same name returns. Conditions: those of each theorem. -/
import Derived.Test.YtlejnkhaphlooaaGreatGT
import Derived.Test.YtlejnkhaphlooaaGreatGgen
import Derived.Test.YtlejnkhaphlooaaGreatGlaw17orders
import Derived.Test.YtlejnkhaphlooaaGreatGlaw17sane
import Derived.Test.YtlejnkhaphlooaaGreatGplanner
import Derived.Test.YtlejnkhaphlooaaGreatGr17
set_option linter.unusedVariables false
set_option linter.unusedSimpArgs false
set_option maxRecDepth 4000
namespace Go.Proofs.YtlejnkhaphlooaaGreat
open Go Go.V Go.Proofs Go.IntKind
def law17_PlannerItems_J23 (f : Int) (b : List (List (List UInt8))) (e : Int) (a : List ((List UInt8) × Int × Int × Int × Int × Int × Bool × (List UInt8))) : Option (Step (Int × Int) (Unit ⊕ Unit)) :=
((planner_Items b a).bind fun c =>
((r17_Items b a).bind fun d =>
((gen_Items c.1 d.1).bind fun g =>
(if (!g) = true then
some (.done (.inl ()))
else
(if (c.2 != d.2) = true then
some (.done (.inl ()))
else
some (.next (e, i64.wrap (f + 1))))))))
def law17_PlannerItems_J24 (h : ((List Int) × Int)) (f : Int) (c : (List ((List UInt8) × Int × Int × Int × Int × Int × Bool × (List UInt8))) × Int) (g : (List (List (List UInt8))) × Int) (e : List (List (List UInt8))) (i : Bool) : Option (Step (Int × Int) (Unit ⊕ Unit)) :=
(if i = true then
((gen_Maker_Next h.1 g.2 ((c.1).length : Int)).bind fun d =>
((idx c.1 d.1).bind fun b =>
((gen_Maker_SpoilWagon h.1 d.2 b.1 b.2.1 b.2.2.1 b.2.2.2.1 b.2.2.2.2.1 b.2.2.2.2.2.1 b.2.2.2.2.2.2.1 b.2.2.2.2.2.2.2).bind fun a =>
((idx c.1 d.1).bind fun j =>
law17_PlannerItems_J23 f e a.2 (c.1.set (Int.toNat d.1) (a.1.1, a.1.2.1, a.1.2.2.1, a.1.2.2.2.1, a.1.2.2.2.2.1, a.1.2.2.2.2.2.1, a.1.2.2.2.2.2.2.1, a.1.2.2.2.2.2.2.2))))))
else
law17_PlannerItems_J23 f e g.2 c.1)
def law17_PlannerItems_J17 (e : ((List Int) × Int)) (a : Int) (b : (List ((List UInt8) × Int × Int × Int × Int × Int × Bool × (List UInt8))) × Int) (d : (List (List (List UInt8))) × Int) (c : List (List (List UInt8))) : Option (Step (Int × Int) (Unit ⊕ Unit)) :=
(if (a == 3) = true then
law17_PlannerItems_J24 e a b d c (decide (((b.1).length : Int) > 0))
else
law17_PlannerItems_J24 e a b d c false)
def law17_PlannerItems_J43 (a : List (List (List UInt8))) (b : List ((List UInt8) × Int × Int × Int × Int × Int × Bool × (List UInt8))) (e : Bool) : Option Bool :=
(if e = true then
((law17_sane).bind fun f =>
some f)
else
((planner_Items a b).bind fun c =>
((r17_Items a b).bind fun d =>
((gen_Items c.1 d.1).bind fun g =>
(if g = true then
(if (c.2 == d.2) = true then
((law17_sane).bind fun h =>
some h)
else
some false)
else
some false)))))
def law17_PlannerItems_L9 (c : ((List Int) × Int)) (f : Int × Int) : Option (Step (Int × Int) (Unit ⊕ Unit)) :=
match f with
| (e, b) =>
(if (decide (b < 4)) = true then
((gen_Maker_Wagons c.1 e 6).bind fun d =>
((law17_orders c.1 d.2).bind fun a =>
(if (decide (b > 1)) = true then
(if a.1.length + ([(([([97] : List UInt8), ([98] : List UInt8), ([99] : List UInt8), ([100] : List UInt8), ([101] : List UInt8), ([110, 111, 114, 116, 104] : List UInt8), ([115, 111, 117, 116, 104] : List UInt8), ([112, 111, 114, 116, 49] : List UInt8), ([120, 57] : List UInt8), ([97, 98, 99, 100, 101, 102, 103, 104, 105, 106, 107, 108] : List UInt8)] : List (List UInt8)))] : List (List (List UInt8))).length ≤ 4294967296 then
law17_PlannerItems_J17 c b d a (a.1 ++ ([(([([97] : List UInt8), ([98] : List UInt8), ([99] : List UInt8), ([100] : List UInt8), ([101] : List UInt8), ([110, 111, 114, 116, 104] : List UInt8), ([115, 111, 117, 116, 104] : List UInt8), ([112, 111, 114, 116, 49] : List UInt8), ([120, 57] : List UInt8), ([97, 98, 99, 100, 101, 102, 103, 104, 105, 106, 107, 108] : List UInt8)] : List (List UInt8)))] : List (List (List UInt8))))
else none)
else
law17_PlannerItems_J17 c b d a a.1)))
else
some (.done (.inr ())))
def law17_PlannerItems (e : List Int) (a : List (List (List UInt8))) (b : List ((List UInt8) × Int × Int × Int × Int × Int × Bool × (List UInt8))) : Option Bool :=
((gen_New e).bind fun c =>
((loop (law17_PlannerItems_L9 c) (c.2, 0)).bind fun d => match d with
| (.inl _) => some false
| (.inr _) => (if (decide (((a).length : Int) > 20)) = true then
law17_PlannerItems_J43 a b true
else
law17_PlannerItems_J43 a b (decide (((b).length : Int) > 30)))))
theorem law17_PlannerItems_w (aF : Option Addr) (aH : Nat) (aE : List Int) (F : Option Addr) (H : Nat) (z : List (List (List UInt8))) (G : Option Addr) (I : Nat) (A : List ((List UInt8) × Int × Int × Int × Int × Int × Bool × (List UInt8))) (bp : Bool) (J : World) (b : List Nat) (g : MS J [b]) (ck : SlR (eInt .i64) J (fl [b]) aF aH aE) (m : SlR (eSl eStr) J (fl [b]) F H z) (o : SlR (eProd eStr (eProd (eInt .i64) (eProd (eInt .i64) (eProd (eInt .i64) (eProd (eInt .i64) (eProd (eInt .i64) (eProd eBool eStr))))))) J (fl [b]) G I A) (e : law17_PlannerItems aE z A = some bp) : CallVC Tryz.prog 3 [.slice aF (aE).length aH, .slice F (z).length H, .slice G (A).length I] J fun aj u => aj = .bool bp ∧ Ev [] J u := by
 refine calls_vc hmx Tryz.func3 (by kernel_rfl) R (rs := [.tmp 6]) R (by kernel_rfl) (args := [.slice aF (aE).length aH, .slice F (z).length H, .slice G (A).length I]) R ?_
 have k : Ev [] J J := Ev.refl _ _
 refine c_sp (x_u 1 [(6, .bool false)] (x_ek (c_sp (x_u 1 [(20, .slice aF (aE).length aH)] ?_))))
 obtain ⟨ac, l, e⟩ := bind_some e
 have v := gen_New_w aF aH aE _ J (fl [b]) (MS.fold (P := []) g) (ck.sub fl1) l
 refine x_call 10 #[] #[] [.slice aF (aE).length aH] _ R R R R v ?_
 rintro aj ct ⟨a, ao, ap, rfl, bf, b6, bl, x, p⟩
 clear v l
 refine inl1 ?_
 have Y : MS J ([] ++ [b]) := g.pick [some 0] _ R
 have U : ∀ j ∈ fl ([] ++ [b]), j ∈ fl [b] := pick_sub [some 0] _ R
 have ai := Stp.call (LS := [b]) (res := [[a]]) (par := []) (R := [b]) bf (fun s C => U s (fl_left' (P := []) s C)) bl (NP.init _ _) (fun j l => U j (fl_right' (P := []) j l))
 have aa : ∀ j ∈ fl [[a], b], j ∈ fl ([[a]] ++ ([] ++ [b])) := pick_sub [some 0, some 1] _ R
 have i := ai.res aa
 replace m := m.step i
 replace o := o.step i
 replace g : MS ct [[a], b] := (MS.call (P := []) (R := [b]) (res := [[a]]) (par := []) Y bf b6 bl (NP.init _ _)).pick [some 0, some 1] _ R
 have X : FR J.heap.size [[a]] := (FR.cons (fun s C => Nat.le_trans k.size (bl.at 0 R s C)) (FR.nil _))
 replace k := k.ext bf
 replace r := X
 clear X
 have bo : ∀ j ∈ fl [[a], b], j ∈ fl ([[a]] ++ ([] ++ [(fl [b])])) := fun j l => fl_tot (res := [[a]]) (par := []) (R := [b]) j (aa j l)
 replace p := p.sub bo
 clear Y U ai aa i
 refine x_u 1 [(7, Vp a 0)] (x_ek (c_seq (c_sp (x_u 1 [(8, Vi 0)] (x_ek (c_block ?_))))))
 obtain ⟨bQ, bc, ba⟩ := bind_some e
 obtain ⟨a1, bc⟩ := loop_some bc
 refine c_loop (loop_rule hmx (σ := Nat × Int × Int) (fun O => match O with | (_, aN, D) => [(1, .slice F (z).length H), (2, .slice G (A).length I), (7, Vp a 0), (8, Vi D)]) (fun O u => match O with | (cl, aN, D) => loopN (law17_PlannerItems_L9 ac) cl (aN, D) = some bQ ∧ Ev [] J u ∧ MS u [[a], b] ∧ FR J.heap.size [[a]] ∧ SlR (eSl eStr) u (fl [[a], b]) F H z ∧ SlR (eProd eStr (eProd (eInt .i64) (eProd (eInt .i64) (eProd (eInt .i64) (eProd (eInt .i64) (eProd (eInt .i64) (eProd eBool eStr))))))) u (fl [[a], b]) G I A ∧ SlR (eInt .i64) u (fl [[a], b]) ao ap ac.1 ∧ u.heap[a]? = some (.cells #[.slice ao (ac.1).length ap, Vi aN] 90 (0, 0))) (fun O => O.1) (a1, ac.2, 0) ⟨R, R, R, R, trivial⟩ ⟨bc, k, g, r, m, o, p, x⟩ ?_)
 rintro ⟨a1, aN, D⟩ af bu ⟨aD, k, g, r, m, o, p, x⟩
 rcases a1 with _ | a1
 · exact (loopN_zero aD).elim
 obtain ⟨bq, e, aD⟩ := bind_some aD
 refine c_seq (c_sp (x_u 2 [(22, Vi D), (23, .bool (decide (D < 4)))] (x_ek (c_nm [(1, .slice F (z).length H), (2, .slice G (A).length I), (7, Vp a 0), (8, Vi D), (23, .bool (decide (D < 4)))] (fun af => ?_)))))
 refine c_if (decide (D < 4)) R e (fun e => ?_) (fun e => ?_)
 · refine c_skip (k_then (c_seq (c_block (c_sp (x_u 1 [(26, Vp a 0)] ?_)))))
   obtain ⟨E, l, e⟩ := bind_some e
   have t : MS bu ([[a]] ++ [b]) := g.pick [some 0, some 1] _ R
   have au : ∀ j ∈ fl ([[a]] ++ [b]), j ∈ fl [[a], b] := pick_sub [some 0, some 1] _ R
   have S : ∀ j ∈ fl ([[a]] ++ [(fl [b])]), j ∈ fl [[a], b] := fun j l => au j (fl_unfold j l)
   have v := gen_Maker_Wagons_w a ao ap ac.1 aN 6 _ bu (fl [b]) (t.fold (P := [[a]])) (p.sub S) x l
   refine x_call 11 #[] #[] [Vp a 0, Vi 6] _ R R R R v ?_
   rintro aj a8 ⟨d, K, rfl, bd, b9, b1, bh, w⟩
   clear v l
   refine inl1 ?_
   have Y : MS bu ([[a]] ++ [b]) := g.pick [some 0, some 1] _ R
   have U : ∀ j ∈ fl ([[a]] ++ [b]), j ∈ fl [[a], b] := pick_sub [some 0, some 1] _ R
   have ai := Stp.call (LS := [[a], b]) (res := [blk d]) (par := [[a]]) (R := [b]) bd (fun s C => U s (fl_left' (P := [[a]]) s C)) bh (NP.init _ _) (fun j l => U j (fl_right' (P := [[a]]) j l))
   have aa : ∀ j ∈ fl [blk d, [a], b], j ∈ fl ([blk d] ++ ([[a]] ++ [b])) := pick_sub [some 0, some 1, some 2] _ R
   have i := ai.res aa
   replace m := m.step i
   replace o := o.step i
   replace p := p.step i
   replace g : MS a8 [blk d, [a], b] := (MS.call (P := [[a]]) (R := [b]) (res := [blk d]) (par := [[a]]) Y bd b1 bh (NP.init _ _)).pick [some 0, some 1, some 2] _ R
   have aC : ∀ s ∈ fl [[a]], J.heap.size ≤ s := FR.mem (ls := [[a]]) (r.pick [some 0] _ R)
   have X : FR J.heap.size [blk d, [a]] := (FR.cons (fun s C => Nat.le_trans k.size (bh.at 0 R s C)) (FR.cons (r.at 0 R) (FR.nil _)))
   replace k := k.then bd (fun s C => .inr (aC s C))
   replace r := X
   clear X
   replace x := b9
   replace w := OwnS.plain (M' := fl [blk d, [a], b]) (plain_prod plain_str (plain_prod (plain_int _) (plain_prod (plain_int _) (plain_prod (plain_int _) (plain_prod (plain_int _) (plain_prod (plain_int _) (plain_prod plain_bool plain_str))))))) w
   clear t S au Y U ai aa i
   refine x_u 1 [(9, .slice d (E.1).length K)] (x_ek (c_sp (x_u 1 [(28, Vp a 0)] ?_)))
   obtain ⟨ar, l, e⟩ := bind_some e
   have t : MS a8 ([[a]] ++ [blk d, b]) := g.pick [some 1, some 0, some 2] _ R
   have au : ∀ j ∈ fl ([[a]] ++ [blk d, b]), j ∈ fl [blk d, [a], b] := pick_sub [some 1, some 0, some 2] _ R
   have S : ∀ j ∈ fl ([[a]] ++ [(fl [blk d, b])]), j ∈ fl [blk d, [a], b] := fun j l => au j (fl_unfold j l)
   have v := law17_orders_w a ao ap ac.1 E.2 _ a8 (fl [blk d, b]) (t.fold (P := [[a]])) (p.sub S) x l
   refine x_call 12 #[] #[] [Vp a 0] _ R R R R v ?_
   rintro aj cm ⟨N, a4, rfl, a5, ca, b2, bi, B⟩
   clear v l
   refine inl1 ?_
   have Y : MS a8 ([[a]] ++ [blk d, b]) := g.pick [some 1, some 0, some 2] _ R
   have U : ∀ j ∈ fl ([[a]] ++ [blk d, b]), j ∈ fl [blk d, [a], b] := pick_sub [some 1, some 0, some 2] _ R
   have ai := Stp.call (LS := [blk d, [a], b]) (res := [blk N]) (par := [[a]]) (R := [blk d, b]) a5 (fun s C => U s (fl_left' (P := [[a]]) s C)) bi (NP.init _ _) (fun j l => U j (fl_right' (P := [[a]]) j l))
   have aa : ∀ j ∈ fl [blk N, blk d, [a], b], j ∈ fl ([blk N] ++ ([[a]] ++ [blk d, b])) := pick_sub [some 0, some 2, some 1, some 3] _ R
   have i := ai.res aa
   replace m := m.step i
   replace o := o.step i
   replace p := p.step i
   replace w := w.step i a5 (MS.outs (P := [[a]]) Y 0 R)
   replace g : MS cm [blk N, blk d, [a], b] := (MS.call (P := [[a]]) (R := [blk d, b]) (res := [blk N]) (par := [[a]]) Y a5 b2 bi (NP.init _ _)).pick [some 0, some 2, some 1, some 3] _ R
   have aC : ∀ s ∈ fl [[a]], J.heap.size ≤ s := FR.mem (ls := [[a]]) (r.pick [some 1] _ R)
   have X : FR J.heap.size [blk N, blk d, [a]] := (FR.cons (fun s C => Nat.le_trans k.size (bi.at 0 R s C)) (FR.cons (r.at 0 R) (FR.cons (r.at 1 R) (FR.nil _))))
   replace k := k.then a5 (fun s C => .inr (aC s C))
   replace r := X
   clear X
   replace x := ca
   have bo : ∀ j ∈ fl [blk N, blk d, [a], b], j ∈ fl ([blk N] ++ ([[a]] ++ [(fl [blk d, b])])) := fun j l => fl_tot (res := [blk N]) (par := [[a]]) (R := [blk d, b]) j (aa j l)
   replace B := B.sub bo
   clear t S au Y U ai aa i
   refine x_u 1 [(10, .slice N (ar.1).length a4)] (x_ek (c_join (σ := (List (List (List UInt8))) × Option Addr × Nat) (fun O => match O with | (Q, f, Z) => [(1, .slice F (z).length H), (2, .slice G (A).length I), (7, Vp a 0), (8, Vi D), (9, .slice d (E.1).length K), (10, .slice f (Q).length Z)]) (fun O u => match O with | (Q, f, Z) => law17_PlannerItems_J17 ac D E ar Q = some bq ∧ Ev [] J u ∧ MS u [[a], blk d, blk f, b] ∧ FR J.heap.size [[a], blk d, blk f] ∧ SlR (eSl eStr) u (fl [[a], blk d, blk f, b]) F H z ∧ SlR (eProd eStr (eProd (eInt .i64) (eProd (eInt .i64) (eProd (eInt .i64) (eProd (eInt .i64) (eProd (eInt .i64) (eProd eBool eStr))))))) u (fl [[a], blk d, blk f, b]) G I A ∧ SlR (eInt .i64) u (fl [[a], blk d, blk f, b]) ao ap ac.1 ∧ u.heap[a]? = some (.cells #[.slice ao (ac.1).length ap, Vi ar.2] 90 (0, 0)) ∧ OwnS (eProd eStr (eProd (eInt .i64) (eProd (eInt .i64) (eProd (eInt .i64) (eProd (eInt .i64) (eProd (eInt .i64) (eProd eBool eStr))))))) 34 u (fl [[a], blk d, blk f, b]) d K E.1 ∧ OwnS (eSl eStr) 31 u (fl [[a], blk d, blk f, b]) f Z Q) ?_ ?_))
   · refine c_sp (x_u 2 [(30, Vi D), (31, .bool (decide (D > 1)))] (x_ek (c_if (decide (D > 1)) R e (fun e => ?_) (fun e => ?_))))
     · refine c_plain (x_u 1 [(32, .slice N (ar.1).length a4)] (x_buildSlice (vs := [(0, Vs ([97] : List UInt8)), (1, Vs ([98] : List UInt8)), (2, Vs ([99] : List UInt8)), (3, Vs ([100] : List UInt8)), (4, Vs ([101] : List UInt8)), (5, Vs ([110, 111, 114, 116, 104] : List UInt8)), (6, Vs ([115, 111, 117, 116, 104] : List UInt8)), (7, Vs ([112, 111, 114, 116, 49] : List UInt8)), (8, Vs ([120, 57] : List UInt8)), (9, Vs ([97, 98, 99, 100, 101, 102, 103, 104, 105, 106, 107, 108] : List UInt8))]) #[Vs ([97] : List UInt8), Vs ([98] : List UInt8), Vs ([99] : List UInt8), Vs ([100] : List UInt8), Vs ([101] : List UInt8), Vs ([110, 111, 114, 116, 104] : List UInt8), Vs ([115, 111, 117, 116, 104] : List UInt8), Vs ([112, 111, 114, 116, 49] : List UInt8), Vs ([120, 57] : List UInt8), Vs ([97, 98, 99, 100, 101, 102, 103, 104, 105, 106, 107, 108] : List UInt8)] 9 R R R (by kernel_rfl) (fun ay cn cd bC aI cD => ?_)))
       refine inl1 ?_
       have aZ := g
       have i := Stp.ext (ls := [blk N, blk d, [a], b]) aI
       replace m := m.step i
       replace o := o.step i
       replace x := aI.box x nn
       replace p := p.step i
       replace w := w.step i aI nn2
       replace B := B.step i aI nn2
       replace g := g.ev aI
       replace k := k.ext aI
       have bn : SlR eStr cn (fl [blk N, blk d, [a], b]) (Ad ay 0) 10 ([([97] : List UInt8), ([98] : List UInt8), ([99] : List UInt8), ([100] : List UInt8), ([101] : List UInt8), ([110, 111, 114, 116, 104] : List UInt8), ([115, 111, 117, 116, 104] : List UInt8), ([112, 111, 114, 116, 49] : List UInt8), ([120, 57] : List UInt8), ([97, 98, 99, 100, 101, 102, 103, 104, 105, 106, 107, 108] : List UInt8)] : List (List UInt8)) := ro_of_box aZ cd bC R R (cells_at (cs := [Vs ([97] : List UInt8), Vs ([98] : List UInt8), Vs ([99] : List UInt8), Vs ([100] : List UInt8), Vs ([101] : List UInt8), Vs ([110, 111, 114, 116, 104] : List UInt8), Vs ([115, 111, 117, 116, 104] : List UInt8), Vs ([112, 111, 114, 116, 49] : List UInt8), Vs ([120, 57] : List UInt8), Vs ([97, 98, 99, 100, 101, 102, 103, 104, 105, 106, 107, 108] : List UInt8)]) (CellsOf.cons (c := [Vs ([97] : List UInt8)]) R (CellsOf.cons (c := [Vs ([98] : List UInt8)]) R (CellsOf.cons (c := [Vs ([99] : List UInt8)]) R (CellsOf.cons (c := [Vs ([100] : List UInt8)]) R (CellsOf.cons (c := [Vs ([101] : List UInt8)]) R (CellsOf.cons (c := [Vs ([110, 111, 114, 116, 104] : List UInt8)]) R (CellsOf.cons (c := [Vs ([115, 111, 117, 116, 104] : List UInt8)]) R (CellsOf.cons (c := [Vs ([112, 111, 114, 116, 49] : List UInt8)]) R (CellsOf.cons (c := [Vs ([120, 57] : List UInt8)]) R (CellsOf.cons (c := [Vs ([97, 98, 99, 100, 101, 102, 103, 104, 105, 106, 107, 108] : List UInt8)]) R CellsOf.nil)))))))))))
       clear bC aZ
       refine x_build (vs := [(0, .slice (Ad ay 0) (([([97] : List UInt8), ([98] : List UInt8), ([99] : List UInt8), ([100] : List UInt8), ([101] : List UInt8), ([110, 111, 114, 116, 104] : List UInt8), ([115, 111, 117, 116, 104] : List UInt8), ([112, 111, 114, 116, 49] : List UInt8), ([120, 57] : List UInt8), ([97, 98, 99, 100, 101, 102, 103, 104, 105, 106, 107, 108] : List UInt8)] : List (List UInt8))).length 10)]) (.agg #[.slice (Ad ay 0) (([([97] : List UInt8), ([98] : List UInt8), ([99] : List UInt8), ([100] : List UInt8), ([101] : List UInt8), ([110, 111, 114, 116, 104] : List UInt8), ([115, 111, 117, 116, 104] : List UInt8), ([112, 111, 114, 116, 49] : List UInt8), ([120, 57] : List UInt8), ([97, 98, 99, 100, 101, 102, 103, 104, 105, 106, 107, 108] : List UInt8)] : List (List UInt8))).length 10]) R R R (fun _ _ => by kernel_rfl) ?_
       refine x_buildSlice (vs := [(0, .agg #[.slice (Ad ay 0) (([([97] : List UInt8), ([98] : List UInt8), ([99] : List UInt8), ([100] : List UInt8), ([101] : List UInt8), ([110, 111, 114, 116, 104] : List UInt8), ([115, 111, 117, 116, 104] : List UInt8), ([112, 111, 114, 116, 49] : List UInt8), ([120, 57] : List UInt8), ([97, 98, 99, 100, 101, 102, 103, 104, 105, 106, 107, 108] : List UInt8)] : List (List UInt8))).length 10])]) #[.slice (Ad ay 0) (([([97] : List UInt8), ([98] : List UInt8), ([99] : List UInt8), ([100] : List UInt8), ([101] : List UInt8), ([110, 111, 114, 116, 104] : List UInt8), ([115, 111, 117, 116, 104] : List UInt8), ([112, 111, 114, 116, 49] : List UInt8), ([120, 57] : List UInt8), ([97, 98, 99, 100, 101, 102, 103, 104, 105, 106, 107, 108] : List UInt8)] : List (List UInt8))).length 10] 31 R R R (by kernel_rfl) (fun bx bL ce bD aJ cE => ?_)
       refine inl1 ?_
       have aZ := g
       have i := Stp.ext (ls := [blk N, blk d, [a], b]) aJ
       replace m := m.step i
       replace o := o.step i
       replace x := aJ.box x nn
       replace p := p.step i
       replace w := w.step i aJ nn2
       replace B := B.step i aJ nn2
       replace bn := bn.step i
       replace g := g.ev aJ
       replace k := k.ext aJ
       have cj : SlR (eSl eStr) bL (fl [blk N, blk d, [a], b]) (Ad bx 0) 1 ([(([([97] : List UInt8), ([98] : List UInt8), ([99] : List UInt8), ([100] : List UInt8), ([101] : List UInt8), ([110, 111, 114, 116, 104] : List UInt8), ([115, 111, 117, 116, 104] : List UInt8), ([112, 111, 114, 116, 49] : List UInt8), ([120, 57] : List UInt8), ([97, 98, 99, 100, 101, 102, 103, 104, 105, 106, 107, 108] : List UInt8)] : List (List UInt8)))] : List (List (List UInt8))) := ro_of_box aZ ce bD R R (cells_at (cs := [.slice (Ad ay 0) (([([97] : List UInt8), ([98] : List UInt8), ([99] : List UInt8), ([100] : List UInt8), ([101] : List UInt8), ([110, 111, 114, 116, 104] : List UInt8), ([115, 111, 117, 116, 104] : List UInt8), ([112, 111, 114, 116, 49] : List UInt8), ([120, 57] : List UInt8), ([97, 98, 99, 100, 101, 102, 103, 104, 105, 106, 107, 108] : List UInt8)] : List (List UInt8))).length 10]) (CellsOf.cons (c := [.slice (Ad ay 0) (([([97] : List UInt8), ([98] : List UInt8), ([99] : List UInt8), ([100] : List UInt8), ([101] : List UInt8), ([110, 111, 114, 116, 104] : List UInt8), ([115, 111, 117, 116, 104] : List UInt8), ([112, 111, 114, 116, 49] : List UInt8), ([120, 57] : List UInt8), ([97, 98, 99, 100, 101, 102, 103, 104, 105, 106, 107, 108] : List UInt8)] : List (List UInt8))).length 10]) ⟨(Ad ay 0), 10, R, bn⟩ CellsOf.nil))
       clear bD aZ
       have b0 := guard_l e
       replace e := guard_r e
       obtain ⟨av, bz, br, cf, aO, bm, cC, bH⟩ := own_appendN tel23 23 B (mem_flat 0 R) cj b0
       refine x_builtin (vs := [.slice N (ar.1).length a4, .slice (Ad bx 0) (([(([([97] : List UInt8), ([98] : List UInt8), ([99] : List UInt8), ([100] : List UInt8), ([101] : List UInt8), ([110, 111, 114, 116, 104] : List UInt8), ([115, 111, 117, 116, 104] : List UInt8), ([112, 111, 114, 116, 49] : List UInt8), ([120, 57] : List UInt8), ([97, 98, 99, 100, 101, 102, 103, 104, 105, 106, 107, 108] : List UInt8)] : List (List UInt8)))] : List (List (List UInt8)))).length 1]) _ br R R R R (run_value _ _ _ _ cf) (inl1 ?_)
       have i : Stp (fl [blk N, blk d, [a], b]) bL (fl [blk av, blk d, [a], b]) br := Stp.upd 0 aO R (fun s C => (bm s C).1)
       replace m := m.step i
       replace o := o.step i
       replace x := aO.box x (g.apart 2 0 R R R _ mem1)
       replace p := p.step i
       replace w := w.step i aO (g.apart 1 0 R R R)
       replace g : MS br [blk av, blk d, [a], b] := g.upd 0 aO R bm
       have X : FR J.heap.size [blk av, blk d, [a]] := r.upd 0 R k.size (fun s C => (bm s C).1)
       replace k := k.then aO (fun s C => .inr (r.at 0 R s C))
       replace r := X
       clear X
       replace B := bH (fl [blk av, blk d, [a], b]) i.new
       clear bH
       refine x_u 1 [(10, .slice av ((ar.1 ++ ([(([([97] : List UInt8), ([98] : List UInt8), ([99] : List UInt8), ([100] : List UInt8), ([101] : List UInt8), ([110, 111, 114, 116, 104] : List UInt8), ([115, 111, 117, 116, 104] : List UInt8), ([112, 111, 114, 116, 49] : List UInt8), ([120, 57] : List UInt8), ([97, 98, 99, 100, 101, 102, 103, 104, 105, 106, 107, 108] : List UInt8)] : List (List UInt8)))] : List (List (List UInt8))))).length bz)] (x_end R ?_)
       have t := g.pick [some 2, some 1, some 0, some 3] [[a], blk d, blk av, b] R
       have q := pick_sub (ls := [blk av, blk d, [a], b]) [some 2, some 1, some 0, some 3] [[a], blk d, blk av, b] R
       replace m := m.sub q
       replace o := o.sub q
       replace p := p.sub q
       replace w := w.sub q
       replace B := B.sub q
       replace g := t
       replace r := r.pick [some 2, some 1, some 0] [[a], blk d, blk av] R
       clear t q
       exact k_then ⟨((ar.1 ++ ([(([([97] : List UInt8), ([98] : List UInt8), ([99] : List UInt8), ([100] : List UInt8), ([101] : List UInt8), ([110, 111, 114, 116, 104] : List UInt8), ([115, 111, 117, 116, 104] : List UInt8), ([112, 111, 114, 116, 49] : List UInt8), ([120, 57] : List UInt8), ([97, 98, 99, 100, 101, 102, 103, 104, 105, 106, 107, 108] : List UInt8)] : List (List UInt8)))] : List (List (List UInt8)))), av, bz), ⟨R, R, R, R, R, R, trivial⟩, e, k, g, r, m, o, p, x, w, B⟩
     refine c_skip ?_
     have t := g.pick [some 2, some 1, some 0, some 3] [[a], blk d, blk N, b] R
     have q := pick_sub (ls := [blk N, blk d, [a], b]) [some 2, some 1, some 0, some 3] [[a], blk d, blk N, b] R
     replace m := m.sub q
     replace o := o.sub q
     replace p := p.sub q
     replace w := w.sub q
     replace B := B.sub q
     replace g := t
     replace r := r.pick [some 2, some 1, some 0] [[a], blk d, blk N] R
     clear t q
     exact k_then ⟨(ar.1, N, a4), ⟨R, R, R, R, R, R, trivial⟩, e, k, g, r, m, o, p, x, w, B⟩
   rintro ⟨Q, f, Z⟩ af cJ ⟨e, k, g, r, m, o, p, x, w, B⟩
   refine c_join (σ := Int × (List ((List UInt8) × Int × Int × Int × Int × Int × Bool × (List UInt8)))) (fun O => match O with | (aL, aq) => [(1, .slice F (z).length H), (2, .slice G (A).length I), (7, Vp a 0), (8, Vi D), (9, .slice d (aq).length K), (10, .slice f (Q).length Z)]) (fun O u => match O with | (aL, aq) => law17_PlannerItems_J23 D Q aL aq = some bq ∧ Ev [] J u ∧ MS u [[a], blk d, blk f, b] ∧ FR J.heap.size [[a], blk d, blk f] ∧ SlR (eSl eStr) u (fl [[a], blk d, blk f, b]) F H z ∧ SlR (eProd eStr (eProd (eInt .i64) (eProd (eInt .i64) (eProd (eInt .i64) (eProd (eInt .i64) (eProd (eInt .i64) (eProd eBool eStr))))))) u (fl [[a], blk d, blk f, b]) G I A ∧ SlR (eInt .i64) u (fl [[a], blk d, blk f, b]) ao ap ac.1 ∧ u.heap[a]? = some (.cells #[.slice ao (ac.1).length ap, Vi aL] 90 (0, 0)) ∧ OwnS (eProd eStr (eProd (eInt .i64) (eProd (eInt .i64) (eProd (eInt .i64) (eProd (eInt .i64) (eProd (eInt .i64) (eProd eBool eStr))))))) 34 u (fl [[a], blk d, blk f, b]) d K aq ∧ OwnS (eSl eStr) 31 u (fl [[a], blk d, blk f, b]) f Z Q) ?_ ?_
   · refine c_join (σ := Bool) (fun O => match O with | a2 => [(1, .slice F (z).length H), (2, .slice G (A).length I), (7, Vp a 0), (8, Vi D), (9, .slice d (E.1).length K), (10, .slice f (Q).length Z), (43, .bool a2)]) (fun O u => match O with | a2 => law17_PlannerItems_J24 ac D E ar Q a2 = some bq ∧ Ev [] J u ∧ MS u [[a], blk d, blk f, b] ∧ FR J.heap.size [[a], blk d, blk f] ∧ SlR (eSl eStr) u (fl [[a], blk d, blk f, b]) F H z ∧ SlR (eProd eStr (eProd (eInt .i64) (eProd (eInt .i64) (eProd (eInt .i64) (eProd (eInt .i64) (eProd (eInt .i64) (eProd eBool eStr))))))) u (fl [[a], blk d, blk f, b]) G I A ∧ SlR (eInt .i64) u (fl [[a], blk d, blk f, b]) ao ap ac.1 ∧ u.heap[a]? = some (.cells #[.slice ao (ac.1).length ap, Vi ar.2] 90 (0, 0)) ∧ OwnS (eProd eStr (eProd (eInt .i64) (eProd (eInt .i64) (eProd (eInt .i64) (eProd (eInt .i64) (eProd (eInt .i64) (eProd eBool eStr))))))) 34 u (fl [[a], blk d, blk f, b]) d K E.1 ∧ OwnS (eSl eStr) 31 u (fl [[a], blk d, blk f, b]) f Z Q) ?_ ?_
     · refine c_plain (x_u 3 [(37, Vi D), (38, .bool (D == 3)), (39, .bool (D == 3))] (x_if 39 (D == 3) R e (fun e => ?_) (fun e => ?_)))
       · refine x_u 1 [(40, .slice d (E.1).length K)] (x_len (vs := [.slice d (E.1).length K]) (Vi ((E.1).length : Int)) R R R (reads_len tsl24 _ _ _ _ _) (x_u 2 [(42, .bool (decide (((E.1).length : Int) > 0))), (43, .bool (decide (((E.1).length : Int) > 0)))] (x_end R ?_)))
         exact k_then ⟨decide (((E.1).length : Int) > 0), ⟨R, R, R, R, R, R, R, trivial⟩, e, k, g, r, m, o, p, x, w, B⟩
       refine x_u 4 [(40, undef), (41, undef), (42, undef), (43, .bool false)] (x_end R ?_)
       exact k_then ⟨false, ⟨R, R, R, R, R, R, R, trivial⟩, e, k, g, r, m, o, p, x, w, B⟩
     rintro a2 af bt ⟨e, k, g, r, m, o, p, x, w, B⟩
     refine c_if a2 R e (fun e => ?_) (fun e => ?_)
     · refine c_sp (x_u 2 [(44, Vp a 0), (45, .slice d (E.1).length K)] (x_len (vs := [.slice d (E.1).length K]) (Vi ((E.1).length : Int)) R R R (reads_len tsl24 _ _ _ _ _) ?_))
       obtain ⟨ag, l, e⟩ := bind_some e
       have t : MS bt ([[a]] ++ [blk d, blk f, b]) := g.pick [some 0, some 1, some 2, some 3] _ R
       have au : ∀ j ∈ fl ([[a]] ++ [blk d, blk f, b]), j ∈ fl [[a], blk d, blk f, b] := pick_sub [some 0, some 1, some 2, some 3] _ R
       have S : ∀ j ∈ fl ([[a]] ++ [(fl [blk d, blk f, b])]), j ∈ fl [[a], blk d, blk f, b] := fun j l => au j (fl_unfold j l)
       have v := gen_Maker_Next_w a ao ap ac.1 ar.2 ((E.1).length : Int) _ bt (fl [blk d, blk f, b]) (t.fold (P := [[a]])) (p.sub S) x l
       refine x_call 13 #[] #[] [Vp a 0, Vi ((E.1).length : Int)] _ R R R R v ?_
       rintro aj bs ⟨rfl, aQ, cb⟩
       clear v l
       refine inl1 ?_
       have Y : MS bt ([[a]] ++ [blk d, blk f, b]) := g.pick [some 0, some 1, some 2, some 3] _ R
       have U : ∀ j ∈ fl ([[a]] ++ [blk d, blk f, b]), j ∈ fl [[a], blk d, blk f, b] := pick_sub [some 0, some 1, some 2, some 3] _ R
       have ai := Stp.call (LS := [[a], blk d, blk f, b]) (res := []) (par := [[a]]) (R := [blk d, blk f, b]) aQ (fun s C => U s (fl_left' (P := [[a]]) s C)) (FR.nil _) (NP.init _ _) (fun j l => U j (fl_right' (P := [[a]]) j l))
       have aa : ∀ j ∈ fl [[a], blk d, blk f, b], j ∈ fl ([] ++ ([[a]] ++ [blk d, blk f, b])) := pick_sub [some 0, some 1, some 2, some 3] _ R
       have i := ai.res aa
       replace m := m.step i
       replace o := o.step i
       replace p := p.step i
       replace w := w.step i aQ (MS.outs (P := [[a]]) Y 0 R)
       replace B := B.step i aQ (MS.outs (P := [[a]]) Y 1 R)
       replace g := g.ev aQ
       have aC : ∀ s ∈ fl [[a]], J.heap.size ≤ s := FR.mem (ls := [[a]]) (r.pick [some 0] _ R)
       replace k := k.then aQ (fun s C => .inr (aC s C))
       replace x := cb
       clear t S au Y U ai aa i
       refine x_u 1 [(11, Vi ag.1)] (x_ek (c_nm [(1, .slice F (z).length H), (2, .slice G (A).length I), (7, Vp a 0), (8, Vi D), (9, .slice d (E.1).length K), (10, .slice f (Q).length Z), (11, Vi ag.1)] (fun af => ?_)))
       refine c_plain (x_u 5 [(48, .slice d (E.1).length K), (49, Vi ag.1), (50, Vp a 0), (51, .slice d (E.1).length K), (52, Vi ag.1)] ?_)
       obtain ⟨L, bI, e⟩ := bind_some e
       obtain ⟨bA, cy, cA, cg, bU, bb⟩ := own_index (Mo := []) tsl24 w bI
       obtain ⟨_, _, rfl, rfl, ⟨_, _, rfl, rfl, ⟨_, _, rfl, rfl, ⟨_, _, rfl, rfl, ⟨_, _, rfl, rfl, ⟨_, _, rfl, rfl, ⟨_, _, rfl, rfl, rfl⟩⟩⟩⟩⟩⟩⟩ := bb
       refine x_indexAddr (xv := .slice d (E.1).length K) (yv := Vi ag.1) (.pointer (some ⟨bA, (Int.toNat ag.1) * (eProd eStr (eProd (eInt .i64) (eProd (eInt .i64) (eProd (eInt .i64) (eProd (eInt .i64) (eProd (eInt .i64) (eProd eBool eStr))))))).n, none⟩)) R R R R cg (x_load (xv := .pointer (some ⟨bA, (Int.toNat ag.1) * (eProd eStr (eProd (eInt .i64) (eProd (eInt .i64) (eProd (eInt .i64) (eProd (eInt .i64) (eProd (eInt .i64) (eProd eBool eStr))))))).n, none⟩)) (.agg #[Vs L.1, Vi L.2.1, Vi L.2.2.1, Vi L.2.2.2.1, Vi L.2.2.2.2.1, Vi L.2.2.2.2.2.1, .bool L.2.2.2.2.2.2.1, Vs L.2.2.2.2.2.2.2]) R R R (reads_agg tagg34 bU (fun _ e => by cases e)) ?_)
       obtain ⟨h, l, e⟩ := bind_some e
       have t : MS bs ([[a]] ++ [blk d, blk f, b]) := g.pick [some 0, some 1, some 2, some 3] _ R
       have au : ∀ j ∈ fl ([[a]] ++ [blk d, blk f, b]), j ∈ fl [[a], blk d, blk f, b] := pick_sub [some 0, some 1, some 2, some 3] _ R
       have S : ∀ j ∈ fl ([[a]] ++ [(fl [blk d, blk f, b])]), j ∈ fl [[a], blk d, blk f, b] := fun j l => au j (fl_unfold j l)
       have v := gen_Maker_SpoilWagon_w a ao ap ac.1 ag.2 L.1 L.2.1 L.2.2.1 L.2.2.2.1 L.2.2.2.2.1 L.2.2.2.2.2.1 L.2.2.2.2.2.2.1 L.2.2.2.2.2.2.2 _ bs (fl [blk d, blk f, b]) (t.fold (P := [[a]])) (p.sub S) x l
       refine x_call 14 #[] #[] [Vp a 0, .agg #[Vs L.1, Vi L.2.1, Vi L.2.2.1, Vi L.2.2.2.1, Vi L.2.2.2.2.1, Vi L.2.2.2.2.2.1, .bool L.2.2.2.2.2.2.1, Vs L.2.2.2.2.2.2.2]] _ R R R R v ?_
       rintro aj cF ⟨rfl, aS, cc⟩
       clear v l
       refine inl1 ?_
       have Y : MS bs ([[a]] ++ [blk d, blk f, b]) := g.pick [some 0, some 1, some 2, some 3] _ R
       have U : ∀ j ∈ fl ([[a]] ++ [blk d, blk f, b]), j ∈ fl [[a], blk d, blk f, b] := pick_sub [some 0, some 1, some 2, some 3] _ R
       have ai := Stp.call (LS := [[a], blk d, blk f, b]) (res := []) (par := [[a]]) (R := [blk d, blk f, b]) aS (fun s C => U s (fl_left' (P := [[a]]) s C)) (FR.nil _) (NP.init _ _) (fun j l => U j (fl_right' (P := [[a]]) j l))
       have aa : ∀ j ∈ fl [[a], blk d, blk f, b], j ∈ fl ([] ++ ([[a]] ++ [blk d, blk f, b])) := pick_sub [some 0, some 1, some 2, some 3] _ R
       have i := ai.res aa
       replace m := m.step i
       replace o := o.step i
       replace p := p.step i
       replace w := w.step i aS (MS.outs (P := [[a]]) Y 0 R)
       replace B := B.step i aS (MS.outs (P := [[a]]) Y 1 R)
       replace g := g.ev aS
       have aC : ∀ s ∈ fl [[a]], J.heap.size ≤ s := FR.mem (ls := [[a]]) (r.pick [some 0] _ R)
       replace k := k.then aS (fun s C => .inr (aC s C))
       replace x := cc
       clear t S au Y U ai aa i
       obtain ⟨cK, bJ, e⟩ := bind_some e
       obtain ⟨bB, cz, bS, ch, cB, bb⟩ := own_index (Mo := []) tsl24 w bJ
       obtain ⟨_, _, rfl, rfl, ⟨_, _, rfl, rfl, ⟨_, _, rfl, rfl, ⟨_, _, rfl, rfl, ⟨_, _, rfl, rfl, ⟨_, _, rfl, rfl, ⟨_, _, rfl, rfl, rfl⟩⟩⟩⟩⟩⟩⟩ := bb
       refine x_indexAddr (xv := .slice d (E.1).length K) (yv := Vi ag.1) (.pointer (some ⟨bB, (Int.toNat ag.1) * (eProd eStr (eProd (eInt .i64) (eProd (eInt .i64) (eProd (eInt .i64) (eProd (eInt .i64) (eProd (eInt .i64) (eProd eBool eStr))))))).n, none⟩)) R R R R ch ?_
       have bK := bI
       obtain ⟨co, ci, aU, b8⟩ := own_storeAE bS (y := (h.1.1, h.1.2.1, h.1.2.2.1, h.1.2.2.2.1, h.1.2.2.2.2.1, h.1.2.2.2.2.2.1, h.1.2.2.2.2.2.2.1, h.1.2.2.2.2.2.2.2)) [Vs h.1.1, Vi h.1.2.1, Vi h.1.2.2.1, Vi h.1.2.2.2.1, Vi h.1.2.2.2.2.1, Vi h.1.2.2.2.2.2.1, .bool h.1.2.2.2.2.2.2.1, Vs h.1.2.2.2.2.2.2.2] tagg34 w (mem_flat 1 R) bJ R R (fun _ _ => ⟨[Vs h.1.1], [Vi h.1.2.1, Vi h.1.2.2.1, Vi h.1.2.2.2.1, Vi h.1.2.2.2.2.1, Vi h.1.2.2.2.2.2.1, .bool h.1.2.2.2.2.2.2.1, Vs h.1.2.2.2.2.2.2.2], R, R, ⟨[Vi h.1.2.1], [Vi h.1.2.2.1, Vi h.1.2.2.2.1, Vi h.1.2.2.2.2.1, Vi h.1.2.2.2.2.2.1, .bool h.1.2.2.2.2.2.2.1, Vs h.1.2.2.2.2.2.2.2], R, R, ⟨[Vi h.1.2.2.1], [Vi h.1.2.2.2.1, Vi h.1.2.2.2.2.1, Vi h.1.2.2.2.2.2.1, .bool h.1.2.2.2.2.2.2.1, Vs h.1.2.2.2.2.2.2.2], R, R, ⟨[Vi h.1.2.2.2.1], [Vi h.1.2.2.2.2.1, Vi h.1.2.2.2.2.2.1, .bool h.1.2.2.2.2.2.2.1, Vs h.1.2.2.2.2.2.2.2], R, R, ⟨[Vi h.1.2.2.2.2.1], [Vi h.1.2.2.2.2.2.1, .bool h.1.2.2.2.2.2.2.1, Vs h.1.2.2.2.2.2.2.2], R, R, ⟨[Vi h.1.2.2.2.2.2.1], [.bool h.1.2.2.2.2.2.2.1, Vs h.1.2.2.2.2.2.2.2], R, R, ⟨[.bool h.1.2.2.2.2.2.2.1], [Vs h.1.2.2.2.2.2.2.2], R, R, R⟩⟩⟩⟩⟩⟩⟩)
       refine x_store co (xv := .pointer (some ⟨bB, (Int.toNat ag.1) * (eProd eStr (eProd (eInt .i64) (eProd (eInt .i64) (eProd (eInt .i64) (eProd (eInt .i64) (eProd (eInt .i64) (eProd eBool eStr))))))).n, none⟩)) (yv := .agg #[Vs h.1.1, Vi h.1.2.1, Vi h.1.2.2.1, Vi h.1.2.2.2.1, Vi h.1.2.2.2.2.1, Vi h.1.2.2.2.2.2.1, .bool h.1.2.2.2.2.2.2.1, Vs h.1.2.2.2.2.2.2.2]) R R R R ci (inl1 ?_)
       have i := Stp.ev' (ls := [[a], blk d, blk f, b]) aU (mem_flat 1 R)
       replace m := m.step i
       replace o := o.step i
       replace x := aU.box x (g.apart 0 1 R R R _ mem1)
       replace p := p.step i
       replace B := B.step i aU (g.apart 2 1 R R R)
       replace g := g.ev aU
       replace k := k.then aU (fun s C => .inr (r.at 1 R s C))
       replace w := b8
       have bG : (Value.slice d (E.1).length K) = (Value.slice d ((E.1.set (Int.toNat ag.1) (h.1.1, h.1.2.1, h.1.2.2.1, h.1.2.2.2.1, h.1.2.2.2.2.1, h.1.2.2.2.2.2.1, h.1.2.2.2.2.2.2.1, h.1.2.2.2.2.2.2.2))).length K) := by first | (rw [List.length_set]; done) | simp only [List.length_set]
       try rw [bG]
       clear bG
       obtain ⟨_, bK⟩ : ∃ y, idx (E.1.set (Int.toNat ag.1) (h.1.1, h.1.2.1, h.1.2.2.1, h.1.2.2.2.1, h.1.2.2.2.2.1, h.1.2.2.2.2.2.1, h.1.2.2.2.2.2.2.1, h.1.2.2.2.2.2.2.2)) ag.1 = some y := idx_set_any bK _ _
       refine x_end R ?_
       exact k_then ⟨(h.2, (E.1.set (Int.toNat ag.1) (h.1.1, h.1.2.1, h.1.2.2.1, h.1.2.2.2.1, h.1.2.2.2.2.1, h.1.2.2.2.2.2.1, h.1.2.2.2.2.2.2.1, h.1.2.2.2.2.2.2.2))), ⟨R, R, R, R, R, R, trivial⟩, e, k, g, r, m, o, p, x, w, B⟩
     refine c_skip ?_
     exact k_then ⟨(ar.2, E.1), ⟨R, R, R, R, R, R, trivial⟩, e, k, g, r, m, o, p, x, w, B⟩
   rintro ⟨aL, aq⟩ af cw ⟨e, k, g, r, m, o, p, x, w, B⟩
   refine c_sp (x_u 2 [(58, .slice f (Q).length Z), (59, .slice d (aq).length K)] ?_)
   obtain ⟨ab, l, e⟩ := bind_some e
   have t := g.pick [some 0, some 3] ([] ++ [[a], b]) R
   have S := sub_fold (ls := [[a], blk d, blk f, b]) [some 0, some 3] [[a], b] R
   have v := planner_Items_w f Z Q d K aq _ cw (fl [[a], b]) (MS.fold (P := []) t) (B.ro S (pick_outf g 2 R [some 0, some 3] [[a], b] R R)) (w.ro S (pick_outf g 1 R [some 0, some 3] [[a], b] R R)) l
   refine x_call 15 #[] #[] [.slice f (Q).length Z, .slice d (aq).length K] _ R R R R v ?_
   rintro aj cp ⟨ah, az, rfl, aK, b3, bj, aw⟩
   clear v l
   refine inl1 ?_
   have i := Stp.call0 [[a], blk d, blk f, b] [blk ah] [blk ah, [a], blk d, blk f, b] aK bj R
   replace m := m.step i
   replace o := o.step i
   replace x := aK.box x nn
   replace p := p.step i
   replace w := w.step i aK nn2
   replace B := B.step i aK nn2
   replace g := MS.call0 [blk ah] [blk ah, [a], blk d, blk f, b] g aK b3 bj R
   have X := FR.call0 [blk ah, [a], blk d, blk f] k.size bj r R
   replace k := k.ext aK
   replace r := X
   clear X
   replace aw := OwnS.plain (M' := fl [blk ah, [a], blk d, blk f, b]) (plain_prod (plain_int _) (plain_prod (plain_int _) (plain_prod (plain_int _) (plain_int _)))) aw
   clear t S i
   have t := g.pick [some 1, some 2, some 3, some 4] [[a], blk d, blk f, b] R
   have q := pick_sub (ls := [blk ah, [a], blk d, blk f, b]) [some 1, some 2, some 3, some 4] [[a], blk d, blk f, b] R
   replace m := m.sub q
   replace o := o.sub q
   replace p := p.sub q
   replace w := w.sub q
   replace B := B.sub q
   replace aw := aw.ro q (pick_out g 0 R [some 1, some 2, some 3, some 4] [[a], blk d, blk f, b] R R)
   replace g := t
   replace r := r.pick [some 1, some 2, some 3] [[a], blk d, blk f] R
   clear t q
   refine x_u 5 [(57, .tuple #[.slice ah (ab.1).length az, Vi ab.2]), (61, .slice ah (ab.1).length az), (62, Vi ab.2), (12, .slice ah (ab.1).length az), (13, Vi ab.2)] (x_ek (c_nm [(1, .slice F (z).length H), (2, .slice G (A).length I), (7, Vp a 0), (8, Vi D), (9, .slice d (aq).length K), (10, .slice f (Q).length Z), (12, .slice ah (ab.1).length az), (13, Vi ab.2)] (fun af => ?_)))
   refine c_sp (x_u 2 [(64, .slice f (Q).length Z), (65, .slice d (aq).length K)] ?_)
   obtain ⟨ak, l, e⟩ := bind_some e
   have t := g.pick [some 0, some 3] ([] ++ [[a], b]) R
   have S := sub_fold (ls := [[a], blk d, blk f, b]) [some 0, some 3] [[a], b] R
   have v := r17_Items_w f Z Q d K aq _ cp (fl [[a], b]) (MS.fold (P := []) t) (B.ro S (pick_outf g 2 R [some 0, some 3] [[a], b] R R)) (w.ro S (pick_outf g 1 R [some 0, some 3] [[a], b] R R)) l
   refine x_call 16 #[] #[] [.slice f (Q).length Z, .slice d (aq).length K] _ R R R R v ?_
   rintro aj cq ⟨al, aG, rfl, a6, b4, bk, aX⟩
   clear v l
   refine inl1 ?_
   have i := Stp.call0 [[a], blk d, blk f, b] [blk al] [blk al, [a], blk d, blk f, b] a6 bk R
   replace m := m.step i
   replace o := o.step i
   replace x := a6.box x nn
   replace p := p.step i
   replace aw := aw.step i
   replace g := MS.call0 [blk al] [blk al, [a], blk d, blk f, b] g a6 b4 bk R
   have X := FR.call0 [blk al, [a], blk d, blk f] k.size bk r R
   replace k := k.ext a6
   replace r := X
   clear X
   replace aX := OwnS.plain (M' := fl [blk al, [a], blk d, blk f, b]) (plain_prod (plain_int _) (plain_prod (plain_int _) (plain_prod (plain_int _) (plain_int _)))) aX
   clear t S i
   have t := g.pick [some 1, some 2, some 3, some 4] [[a], blk d, blk f, b] R
   have q := pick_sub (ls := [blk al, [a], blk d, blk f, b]) [some 1, some 2, some 3, some 4] [[a], blk d, blk f, b] R
   replace m := m.sub q
   replace o := o.sub q
   replace p := p.sub q
   replace aw := aw.sub q
   replace aX := aX.ro q (pick_out g 0 R [some 1, some 2, some 3, some 4] [[a], blk d, blk f, b] R R)
   replace g := t
   replace r := r.pick [some 1, some 2, some 3] [[a], blk d, blk f] R
   clear t q
   refine x_u 5 [(63, .tuple #[.slice al (ak.1).length aG, Vi ak.2]), (67, .slice al (ak.1).length aG), (68, Vi ak.2), (14, .slice al (ak.1).length aG), (15, Vi ak.2)] (x_ek (c_sp (x_u 2 [(69, .slice ah (ab.1).length az), (70, .slice al (ak.1).length aG)] ?_)))
   obtain ⟨bv, l, e⟩ := bind_some e
   have v := gen_Items_w ah az ab.1 al aG ak.1 _ cq (fl [[a], blk d, blk f, b]) (MS.fold (P := []) g) (aw.sub fl1) (aX.sub fl1) l
   refine x_call 17 #[] #[] [.slice ah (ab.1).length az, .slice al (ak.1).length aG] _ R R R R v ?_
   rintro aj cG ⟨rfl, a7⟩
   clear v l
   refine inl1 ?_
   have i := Stp.ext (ls := [[a], blk d, blk f, b]) a7
   replace m := m.step i
   replace o := o.step i
   replace x := a7.box x nn
   replace p := p.step i
   replace g := g.ev a7
   replace k := k.ext a7
   refine x_u 2 [(72, .bool (!bv)), (73, .bool (!bv))] (x_if 73 (!bv) R e (fun e => ?_) (fun e => ?_))
   · refine x_u 4 [(74, undef), (75, undef), (76, undef), (77, .bool true)] (x_ek (c_nm [(1, .slice F (z).length H), (2, .slice G (A).length I), (7, Vp a 0), (8, Vi D), (77, .bool true)] (fun af => ?_)))
     refine c_true R (c_sp (x_u 1 [(6, .bool false)] (x_ek (c_ret (k_block_ret (k_then_ret ?_))))))
     obtain rfl := some_inj e
     have a0 := some_inj aD
     subst a0
     replace e := ba
     refine k_then_ret (k_block_ret (k_then_ret (r_ret (r_vals [.bool false] ⟨R, trivial⟩ ?_))))
     obtain rfl := some_inj e
     exact ⟨R, k⟩
   refine x_u 4 [(74, Vi ab.2), (75, Vi ak.2), (76, .bool (ab.2 != ak.2)), (77, .bool (ab.2 != ak.2))] (x_ek (c_nm [(1, .slice F (z).length H), (2, .slice G (A).length I), (7, Vp a 0), (8, Vi D), (77, .bool (ab.2 != ak.2))] (fun af => ?_)))
   refine c_if (ab.2 != ak.2) R e (fun e => ?_) (fun e => ?_)
   · refine c_sp (x_u 1 [(6, .bool false)] (x_ek (c_ret (k_block_ret (k_then_ret ?_)))))
     obtain rfl := some_inj e
     have a0 := some_inj aD
     subst a0
     replace e := ba
     refine k_then_ret (k_block_ret (k_then_ret (r_ret (r_vals [.bool false] ⟨R, trivial⟩ ?_))))
     obtain rfl := some_inj e
     exact ⟨R, k⟩
   refine c_skip (k_block (k_then (c_plain (x_u 3 [(24, Vi D), (25, Vi (i64.wrap (D + 1))), (8, Vi (i64.wrap (D + 1)))] (x_end R ?_)))))
   obtain rfl := some_inj e
   have t := g.pick [some 0, some 3] [[a], b] R
   have q := pick_sub (ls := [[a], blk d, blk f, b]) [some 0, some 3] [[a], b] R
   replace m := m.sub q
   replace o := o.sub q
   replace p := p.sub q
   replace g := t
   replace r := r.pick [some 0] [[a]] R
   clear t q
   exact k_then ⟨(a1, aL, i64.wrap (D + 1)), ⟨R, R, R, R, trivial⟩, ⟨aD, k, g, r, m, o, p, x⟩, Nat.lt_succ_self _⟩
 refine c_exit (k_then_exit ?_)
 obtain rfl := some_inj e
 have a0 := some_inj aD
 subst a0
 replace e := ba
 refine k_then_exit (k_block_in (k_then (c_nm [(1, .slice F (z).length H), (2, .slice G (A).length I)] (fun af => ?_))))
 refine c_seq (c_join (σ := Bool) (fun O => match O with | a3 => [(1, .slice F (z).length H), (2, .slice G (A).length I), (85, .bool a3)]) (fun O u => match O with | a3 => law17_PlannerItems_J43 z A a3 = some bp ∧ Ev [] J u ∧ MS u [b] ∧ FR J.heap.size [] ∧ SlR (eSl eStr) u (fl [b]) F H z ∧ SlR (eProd eStr (eProd (eInt .i64) (eProd (eInt .i64) (eProd (eInt .i64) (eProd (eInt .i64) (eProd (eInt .i64) (eProd eBool eStr))))))) u (fl [b]) G I A) ?_ ?_)
 · refine c_plain (x_u 1 [(78, .slice F (z).length H)] (x_len (vs := [.slice F (z).length H]) (Vi ((z).length : Int)) R R R (reads_len tsl23 _ _ _ _ _) (x_u 2 [(80, .bool (decide (((z).length : Int) > 20))), (81, .bool (decide (((z).length : Int) > 20)))] (x_if 81 (decide (((z).length : Int) > 20)) R e (fun e => ?_) (fun e => ?_)))))
   · refine x_u 4 [(82, undef), (83, undef), (84, undef), (85, .bool true)] (x_end R ?_)
     have t := g.pick [some 1] [b] R
     have q := pick_sub (ls := [[a], b]) [some 1] [b] R
     replace m := m.sub q
     replace o := o.sub q
     replace g := t
     replace r := r.pick [] [] R
     clear t q
     exact k_then ⟨true, ⟨R, R, R, trivial⟩, e, k, g, r, m, o⟩
   refine x_u 1 [(82, .slice G (A).length I)] (x_len (vs := [.slice G (A).length I]) (Vi ((A).length : Int)) R R R (reads_len tsl24 _ _ _ _ _) (x_u 2 [(84, .bool (decide (((A).length : Int) > 30))), (85, .bool (decide (((A).length : Int) > 30)))] (x_end R ?_)))
   have t := g.pick [some 1] [b] R
   have q := pick_sub (ls := [[a], b]) [some 1] [b] R
   replace m := m.sub q
   replace o := o.sub q
   replace g := t
   replace r := r.pick [] [] R
   clear t q
   exact k_then ⟨decide (((A).length : Int) > 30), ⟨R, R, R, trivial⟩, e, k, g, r, m, o⟩
 rintro a3 af bN ⟨e, k, g, r, m, o⟩
 refine c_if a3 R e (fun e => ?_) (fun e => ?_)
 · refine c_sp ?_
   obtain ⟨bw, l, e⟩ := bind_some e
   have v := law17_sane_w _ bN l
   refine x_call 18 #[] #[] [] _ R R R R v ?_
   rintro aj cH ⟨rfl, bX⟩
   clear v l
   refine inl1 ?_
   replace k := k.ext bX
   refine x_u 1 [(6, .bool bw)] (x_ek (c_nm [(6, .bool bw)] (fun af => ?_)))
   refine c_ret (k_then_ret (r_ret (r_vals [.bool bw] ⟨R, trivial⟩ ?_)))
   obtain rfl := some_inj e
   exact ⟨R, k⟩
 refine c_skip (k_then (c_nm [(1, .slice F (z).length H), (2, .slice G (A).length I)] (fun af => ?_)))
 refine c_sp (x_u 2 [(88, .slice F (z).length H), (89, .slice G (A).length I)] ?_)
 obtain ⟨ad, l, e⟩ := bind_some e
 have v := planner_Items_w F H z G I A _ bN (fl [b]) (MS.fold (P := []) g) (m.sub fl1) (o.sub fl1) l
 refine x_call 15 #[] #[] [.slice F (z).length H, .slice G (A).length I] _ R R R R v ?_
 rintro aj cr ⟨am, aA, rfl, be, b5, bE, ax⟩
 clear v l
 refine inl1 ?_
 have i := Stp.call0 [b] [blk am] [blk am, b] be bE R
 replace m := m.step i
 replace o := o.step i
 replace g := MS.call0 [blk am] [blk am, b] g be b5 bE R
 replace k := k.ext be
 replace ax := OwnS.plain (M' := fl [blk am, b]) (plain_prod (plain_int _) (plain_prod (plain_int _) (plain_prod (plain_int _) (plain_int _)))) ax
 clear i
 have t := g.pick [some 1] [b] R
 have q := pick_sub (ls := [blk am, b]) [some 1] [b] R
 replace m := m.sub q
 replace o := o.sub q
 replace ax := ax.ro q (pick_out g 0 R [some 1] [b] R R)
 replace g := t
 clear t q
 refine x_u 5 [(87, .tuple #[.slice am (ad.1).length aA, Vi ad.2]), (91, .slice am (ad.1).length aA), (92, Vi ad.2), (16, .slice am (ad.1).length aA), (17, Vi ad.2)] (x_ek (c_sp (x_u 2 [(94, .slice F (z).length H), (95, .slice G (A).length I)] ?_)))
 obtain ⟨ae, l, e⟩ := bind_some e
 have v := r17_Items_w F H z G I A _ cr (fl [b]) (MS.fold (P := []) g) (m.sub fl1) (o.sub fl1) l
 refine x_call 16 #[] #[] [.slice F (z).length H, .slice G (A).length I] _ R R R R v ?_
 rintro aj cu ⟨an, aB, rfl, bg, b7, bF, aY⟩
 clear v l
 refine inl1 ?_
 have i := Stp.call0 [b] [blk an] [blk an, b] bg bF R
 replace ax := ax.step i
 replace g := MS.call0 [blk an] [blk an, b] g bg b7 bF R
 replace k := k.ext bg
 replace aY := OwnS.plain (M' := fl [blk an, b]) (plain_prod (plain_int _) (plain_prod (plain_int _) (plain_prod (plain_int _) (plain_int _)))) aY
 clear i
 have t := g.pick [some 1] [b] R
 have q := pick_sub (ls := [blk an, b]) [some 1] [b] R
 replace ax := ax.sub q
 replace aY := aY.ro q (pick_out g 0 R [some 1] [b] R R)
 replace g := t
 clear t q
 refine x_u 5 [(93, .tuple #[.slice an (ae.1).length aB, Vi ae.2]), (97, .slice an (ae.1).length aB), (98, Vi ae.2), (18, .slice an (ae.1).length aB), (19, Vi ae.2)] (x_ek (c_nm [(16, .slice am (ad.1).length aA), (17, Vi ad.2), (18, .slice an (ae.1).length aB), (19, Vi ae.2)] (fun af => ?_)))
 refine c_sp (x_u 2 [(99, .slice am (ad.1).length aA), (100, .slice an (ae.1).length aB)] ?_)
 obtain ⟨bO, l, e⟩ := bind_some e
 have v := gen_Items_w am aA ad.1 an aB ae.1 _ cu (fl [b]) (MS.fold (P := []) g) (ax.sub fl1) (aY.sub fl1) l
 refine x_call 17 #[] #[] [.slice am (ad.1).length aA, .slice an (ae.1).length aB] _ R R R R v ?_
 rintro aj cv ⟨rfl, bY⟩
 clear v l
 refine inl1 ?_
 replace k := k.ext bY
 refine x_u 1 [(102, .bool bO)] (x_if 102 bO R e (fun e => ?_) (fun e => ?_))
 · refine x_u 5 [(103, Vi ad.2), (104, Vi ae.2), (105, .bool (ad.2 == ae.2)), (106, .bool (ad.2 == ae.2)), (107, .bool (ad.2 == ae.2))] (x_if 107 (ad.2 == ae.2) R e (fun e => ?_) (fun e => ?_))
   · obtain ⟨a9, l, e⟩ := bind_some e
     have v := law17_sane_w _ cv l
     refine x_call 18 #[] #[] [] _ R R R R v ?_
     rintro aj cI ⟨rfl, bZ⟩
     clear v l
     refine inl1 ?_
     replace k := k.ext bZ
     refine x_u 2 [(109, .bool a9), (6, .bool a9)] (x_ek (c_nm [(6, .bool a9)] (fun af => ?_)))
     refine c_ret (r_ret (r_vals [.bool a9] ⟨R, trivial⟩ ?_))
     obtain rfl := some_inj e
     exact ⟨R, k⟩
   refine x_u 3 [(108, undef), (109, .bool false), (6, .bool false)] (x_ek (c_nm [(6, .bool false)] (fun af => ?_)))
   refine c_ret (r_ret (r_vals [.bool false] ⟨R, trivial⟩ ?_))
   obtain rfl := some_inj e
   exact ⟨R, k⟩
 refine x_u 8 [(103, undef), (104, undef), (105, undef), (106, .bool false), (107, .bool false), (108, undef), (109, .bool false), (6, .bool false)] (x_ek (c_ret (r_ret (r_vals [.bool false] ⟨R, trivial⟩ ?_))))
 obtain rfl := some_inj e
 exact ⟨R, k⟩
end Go.Proofs.YtlejnkhaphlooaaGreat
