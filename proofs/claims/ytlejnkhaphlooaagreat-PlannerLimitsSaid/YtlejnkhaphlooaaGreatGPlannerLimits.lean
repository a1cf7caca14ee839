
/- Walks, printed by program: each function returns what the partial function of the same name returns. Conditions: those of each theorem. -/
import Derived.Test.YtlejnkhaphlooaaGreatGT
import Derived.Test.YtlejnkhaphlooaaGreatGgen
import Derived.Test.YtlejnkhaphlooaaGreatGlaw17items
import Derived.Test.YtlejnkhaphlooaaGreatGlaw17sane
import Derived.Test.YtlejnkhaphlooaaGreatGplanner
set_option linter.unusedVariables false
set_option linter.unusedSimpArgs false
set_option maxRecDepth 4000
namespace Go.Proofs.YtlejnkhaphlooaaGreat
open Go Go.V Go.Proofs Go.IntKind
def law17_PlannerLimits_L70 (e : List ((List UInt8) × Int × Int × Int × Int × Int × Bool × (List UInt8))) (d : List (List (List UInt8))) (c : (List (Int × Int × Int × Int)) × Int) (f : Int) : Option (Step Int (Unit ⊕ Unit)) :=
match f with
| a =>
(if (decide (a < ((c.1).length : Int))) = true then
((idx c.1 a).bind fun b =>
(if (b.1 != 0) = true then
some (.done (.inl ()))
else
(if (decide (b.2.1 < 0)) = true then
some (.done (.inl ()))
else
(if (decide (b.2.1 > 9)) = true then
some (.done (.inl ()))
else
((idx d 0).bind fun g =>
((idx g b.2.1).bind fun h =>
((idx e a).bind fun i =>
(if (h != i.2.2.2.2.2.2.2) = true then
some (.done (.inl ()))
else
some (.next (i64.wrap (a + 1)))))))))))
else
some (.done (.inr ())))
def law17_PlannerLimits_J69 (c : List ((List UInt8) × Int × Int × Int × Int × Int × Bool × (List UInt8))) (b : List (List (List UInt8))) (d : (List (Int × Int × Int × Int)) × Int) : Option Bool :=
((loop (law17_PlannerLimits_L70 c b d) 0).bind fun a => match a with
| (.inl _) => some false
| (.inr _) => ((law17_sane).bind fun e =>
some e))
def law17_PlannerLimits_J14 (d : Int) (b : List ((List UInt8) × Int × Int × Int × Int × Int × Bool × (List UInt8))) (c : List (List (List UInt8))) : Option Bool :=
((planner_Items c b).bind fun a =>
(if (a.2 != d) = true then
some false
else
(if (a.2 == 0) = true then
(if (((a.1).length : Int) != ((b).length : Int)) = true then
some false
else
law17_PlannerLimits_J69 b c a)
else
law17_PlannerLimits_J69 b c a)))
def law17_PlannerLimits_L15 (b : Int) (c : (List (List (List UInt8)))) : Option (Step (List (List (List UInt8))) (List (List (List UInt8)))) :=
match c with
| a =>
(if (decide (((a).length : Int) < (i64.wrap (15 + (Int.tmod (i64.wrap ((Int.tmod b 3) + 3)) 3))))) = true then
(if a.length + ([([])] : List (List (List UInt8))).length ≤ 4294967296 then
some (.next (a ++ ([([])] : List (List (List UInt8)))))
else none)
else
some (.done a))
def law17_PlannerLimits_L20 (b : Int) (c : (List (List UInt8))) : Option (Step (List (List UInt8)) (List (List UInt8))) :=
match c with
| a =>
(if (decide (((a).length : Int) < (i64.wrap (31 + (Int.tmod (i64.wrap ((Int.tmod b 3) + 3)) 3))))) = true then
(if a.length + ([([122, 122] : List UInt8)] : List (List UInt8)).length ≤ 4294967296 then
some (.next (a ++ ([([122, 122] : List UInt8)] : List (List UInt8))))
else none)
else
some (.done a))
def law17_PlannerLimits_L29 (e : Int) (g : ((List Int) × Int)) (f : Int × (List ((List UInt8) × Int × Int × Int × Int × Int × Bool × (List UInt8))) × Int) : Option (Step (Int × (List ((List UInt8) × Int × Int × Int × Int × Int × Bool × (List UInt8))) × Int) (List ((List UInt8) × Int × Int × Int × Int × Int × Bool × (List UInt8)))) :=
match f with
| (d, b, c) =>
(if (decide (c < (i64.wrap (95 + (Int.tmod (i64.wrap ((Int.tmod e 3) + 3)) 3))))) = true then
((gen_Maker_Wagon g.1 d c).bind fun a =>
(if b.length + ([(a.1.1, a.1.2.1, a.1.2.2.1, a.1.2.2.2.1, a.1.2.2.2.2.1, a.1.2.2.2.2.2.1, a.1.2.2.2.2.2.2.1, a.1.2.2.2.2.2.2.2)] : List ((List UInt8) × Int × Int × Int × Int × Int × Bool × (List UInt8))).length ≤ 4294967296 then
some (.next (a.2, (b ++ ([(a.1.1, a.1.2.1, a.1.2.2.1, a.1.2.2.2.1, a.1.2.2.2.2.1, a.1.2.2.2.2.2.1, a.1.2.2.2.2.2.2.1, a.1.2.2.2.2.2.2.2)] : List ((List UInt8) × Int × Int × Int × Int × Int × Bool × (List UInt8)))), i64.wrap (c + 1)))
else none))
else
some (.done b))
def law17_PlannerLimits_L39 (b : Int) (c : (List Int)) : Option (Step (List Int) (List Int)) :=
match c with
| a =>
(if (decide (((a).length : Int) < (i64.wrap (31 + (Int.tmod (i64.wrap ((Int.tmod b 3) + 3)) 3))))) = true then
(if a.length + ([500]).length ≤ 4294967296 then
some (.next (a ++ [500]))
else none)
else
some (.done a))
def law17_PlannerLimits_J13 (d : Int) (f : Int) (l : ((List Int) × Int)) (g : (List ((List UInt8) × Int × Int × Int × Int × Int × Bool × (List UInt8))) × Int) (c : List (List (List UInt8))) (e : Int) : Option Bool :=
(if ((Int.tmod (i64.wrap ((Int.tmod f 4) + 4)) 4) == 0) = true then
((loop (law17_PlannerLimits_L15 d) c).bind fun b => match b with
| j => law17_PlannerLimits_J14 e g.1 j)
else
(if ((Int.tmod (i64.wrap ((Int.tmod f 4) + 4)) 4) == 1) = true then
((loop (law17_PlannerLimits_L20 d) ([] : List (List UInt8))).bind fun b => match b with
| h => (if c.length + ([(h)] : List (List (List UInt8))).length ≤ 4294967296 then
law17_PlannerLimits_J14 e g.1 (c ++ ([(h)] : List (List (List UInt8))))
else none))
else
(if ((Int.tmod (i64.wrap ((Int.tmod f 4) + 4)) 4) == 2) = true then
((loop (law17_PlannerLimits_L29 d l) (g.2, ([] : List ((List UInt8) × Int × Int × Int × Int × Int × Bool × (List UInt8))), 0)).bind fun b => match b with
| k => law17_PlannerLimits_J14 e k c)
else
((loop (law17_PlannerLimits_L39 d) ([] : List Int)).bind fun b => match b with
| i => ((law17_items ([1, 3, 0, 2])).bind fun m =>
((planner_Plan m i).bind fun a =>
(if (a.2.2 == e) = true then
(if (((a.2.1).length : Int) == 0) = true then
(if (a.2.2 != 0) = true then
((law17_sane).bind fun n =>
some n)
else
((planner_Check a.1.1.1 a.1.1.2 a.1.2.1.1.1 a.1.2.1.1.2 a.1.2.1.2 a.1.2.2 i).bind fun o =>
(if (o == 0) = true then
((law17_sane).bind fun p =>
some p)
else
some false)))
else
some false)
else
some false)))))))
def law17_PlannerLimits (e : List Int) (b : Int) (c : Int) : Option Bool :=
((gen_New e).bind fun a =>
((gen_Maker_Wagons a.1 a.2 4).bind fun d =>
(if (decide ((Int.tmod (i64.wrap ((Int.tmod b 3) + 3)) 3) > 1)) = true then
law17_PlannerLimits_J13 b c a d ([(([([97] : List UInt8), ([98] : List UInt8), ([99] : List UInt8), ([100] : List UInt8), ([101] : List UInt8), ([110, 111, 114, 116, 104] : List UInt8), ([115, 111, 117, 116, 104] : List UInt8), ([112, 111, 114, 116, 49] : List UInt8), ([120, 57] : List UInt8), ([97, 98, 99, 100, 101, 102, 103, 104, 105, 106, 107, 108] : List UInt8)] : List (List UInt8)))] : List (List (List UInt8))) 3
else
law17_PlannerLimits_J13 b c a d ([(([([97] : List UInt8), ([98] : List UInt8), ([99] : List UInt8), ([100] : List UInt8), ([101] : List UInt8), ([110, 111, 114, 116, 104] : List UInt8), ([115, 111, 117, 116, 104] : List UInt8), ([112, 111, 114, 116, 49] : List UInt8), ([120, 57] : List UInt8), ([97, 98, 99, 100, 101, 102, 103, 104, 105, 106, 107, 108] : List UInt8)] : List (List UInt8)))] : List (List (List UInt8))) 0)))
theorem law17_PlannerLimits_w (bf : Option Addr) (bh : Nat) (a7 : List Int) (w : Int) (al : Int) (bG : Bool) (G : World) (a : List Nat) (d : MS G [a]) (es : SlR (eInt .i64) G (fl [a]) bf bh a7) (b : law17_PlannerLimits a7 w al = some bG) : CallVC Tryz.prog 7 [Vl bf a7 bh, Vi w, Vi al] G fun aH x => aH = .bool bG ∧ Ev [] G x := by
 refine calls_vc hmx Tryz.func7 (by kernel_rfl) R (rs := [.tmp 6]) R (by kernel_rfl) (args := [Vl bf a7 bh, Vi w, Vi al]) R ?_
 have g : Ev [] G G := Ev.refl _ _
 refine c_sp (x_u 1 [(6, .bool false)] (x_ek (c_sp (x_u 1 [(21, Vl bf a7 bh)] ?_))))
 obtain ⟨a1, B, b⟩ := bind_some b
 have O := gen_New_w bf bh a7 _ G (fl [a]) (MS.fold (P := []) d) (es.sub fl1) B
 refine x_call 10 #[] #[] [Vl bf a7 bh] _ R R R R O ?_
 rintro aH b4 ⟨f, ba, bg, rfl, db, dS, dc, ah, H⟩
 clear O B
 refine inl1 ?_
 have aZ : MS G ([] ++ [a]) := d.pick [some 0] _ R
 have a4 : ∀ F ∈ fl [[f], a], F ∈ fl ([[f]] ++ ([] ++ [a])) := pick_sub [some 0, some 1] _ R
 replace d : MS b4 [[f], a] := (MS.call (P := []) (R := [a]) (res := [[f]]) (par := []) aZ db dS dc (NP.init _ _)).pick [some 0, some 1] _ R
 have Q : FR G.heap.size [[f]] := (FR.cons (fun s v => Nat.le_trans g.size (dc.at 0 R s v)) (FR.nil _))
 replace g := g.ext db
 replace j := Q
 clear Q
 have et : ∀ F ∈ fl [[f], a], F ∈ fl ([[f]] ++ ([] ++ [(fl [a])])) := fun F B => fl_tot (res := [[f]]) (par := []) (R := [a]) F (a4 F B)
 replace H := H.sub et
 clear aZ a4
 refine x_u 1 [(7, Vp f 0)] (x_ek (c_sp (x_u 5 [(23, Vi w), (24, Vi (Int.tmod w 3)), (25, Vi (i64.wrap ((Int.tmod w 3) + 3))), (26, Vi (Int.tmod (i64.wrap ((Int.tmod w 3) + 3)) 3)), (1, Vi (Int.tmod (i64.wrap ((Int.tmod w 3) + 3)) 3))] (x_ek (c_sp (x_u 1 [(27, Vp f 0)] ?_))))))
 obtain ⟨aB, B, b⟩ := bind_some b
 have r : MS b4 ([[f]] ++ [a]) := d.pick [some 0, some 1] _ R
 have bz : ∀ F ∈ fl ([[f]] ++ [a]), F ∈ fl [[f], a] := pick_sub [some 0, some 1] _ R
 have ak : ∀ F ∈ fl ([[f]] ++ [(fl [a])]), F ∈ fl [[f], a] := fun F B => bz F (fl_unfold F B)
 have O := gen_Maker_Wagons_w f ba bg a1.1 a1.2 4 _ b4 (fl [a]) (r.fold (P := [[f]])) (H.sub ak) ah B
 refine x_call 11 #[] #[] [Vp f 0, Vi 4] _ R R R R O ?_
 rintro aH eC ⟨af, aE, rfl, cj, d1, dZ, cn, y⟩
 clear O B
 refine inl1 ?_
 have aZ : MS b4 ([[f]] ++ [a]) := d.pick [some 0, some 1] _ R
 have a6 : ∀ F ∈ fl ([[f]] ++ [a]), F ∈ fl [[f], a] := pick_sub [some 0, some 1] _ R
 have bA := Stp.call (LS := [[f], a]) (res := [blk af]) (par := [[f]]) (R := [a]) cj (fun s v => a6 s (fl_left' (P := [[f]]) s v)) cn (NP.init _ _) (fun F B => a6 F (fl_right' (P := [[f]]) F B))
 have a4 : ∀ F ∈ fl [blk af, [f], a], F ∈ fl ([blk af] ++ ([[f]] ++ [a])) := pick_sub [some 0, some 1, some 2] _ R
 have k := bA.res a4
 replace H := H.step k
 replace d : MS eC [blk af, [f], a] := (MS.call (P := [[f]]) (R := [a]) (res := [blk af]) (par := [[f]]) aZ cj dZ cn (NP.init _ _)).pick [some 0, some 1, some 2] _ R
 have b9 : ∀ s ∈ fl [[f]], G.heap.size ≤ s := FR.mem (ls := [[f]]) (j.pick [some 0] _ R)
 have Q : FR G.heap.size [blk af, [f]] := (FR.cons (fun s v => Nat.le_trans g.size (cn.at 0 R s v)) (FR.cons (j.at 0 R) (FR.nil _)))
 replace g := g.then cj (fun s v => .inr (b9 s v))
 replace j := Q
 clear Q
 replace ah := d1
 replace y := OwnS.plain (M' := fl [blk af, [f], a]) (plain_prod plain_str (plain_prod (plain_int _) (plain_prod (plain_int _) (plain_prod (plain_int _) (plain_prod (plain_int _) (plain_prod (plain_int _) (plain_prod plain_bool plain_str))))))) y
 clear r ak bz aZ a6 bA a4 k
 have r := d.pick [some 1, some 2] [[f], a] R
 have m := pick_sub (ls := [blk af, [f], a]) [some 1, some 2] [[f], a] R
 replace H := H.sub m
 replace y := y.ro m (pick_out d 0 R [some 1, some 2] [[f], a] R R)
 replace d := r
 replace j := j.pick [some 1] [[f]] R
 clear r m
 refine x_u 1 [(8, Vl af aB.1 aE)] (x_ek (c_sp (x_buildSlice (vs := [(0, Vs ([97] : List UInt8)), (1, Vs ([98] : List UInt8)), (2, Vs ([99] : List UInt8)), (3, Vs ([100] : List UInt8)), (4, Vs ([101] : List UInt8)), (5, Vs ([110, 111, 114, 116, 104] : List UInt8)), (6, Vs ([115, 111, 117, 116, 104] : List UInt8)), (7, Vs ([112, 111, 114, 116, 49] : List UInt8)), (8, Vs ([120, 57] : List UInt8)), (9, Vs ([97, 98, 99, 100, 101, 102, 103, 104, 105, 106, 107, 108] : List UInt8))]) #[Vs ([97] : List UInt8), Vs ([98] : List UInt8), Vs ([99] : List UInt8), Vs ([100] : List UInt8), Vs ([101] : List UInt8), Vs ([110, 111, 114, 116, 104] : List UInt8), Vs ([115, 111, 117, 116, 104] : List UInt8), Vs ([112, 111, 114, 116, 49] : List UInt8), Vs ([120, 57] : List UInt8), Vs ([97, 98, 99, 100, 101, 102, 103, 104, 105, 106, 107, 108] : List UInt8)] 9 R R R (by kernel_rfl) (fun a2 dq d9 da b3 e6 => ?_))))
 refine inl1 ?_
 have aj := d
 have k := Stp.ext (ls := [[f], a]) b3
 replace ah := b3.box ah nn
 replace H := H.step k
 replace y := y.step k
 replace d := d.ev b3
 replace g := g.ext b3
 have cA : SlR eStr dq (fl [[f], a]) (Ad a2 0) 10 ([([97] : List UInt8), ([98] : List UInt8), ([99] : List UInt8), ([100] : List UInt8), ([101] : List UInt8), ([110, 111, 114, 116, 104] : List UInt8), ([115, 111, 117, 116, 104] : List UInt8), ([112, 111, 114, 116, 49] : List UInt8), ([120, 57] : List UInt8), ([97, 98, 99, 100, 101, 102, 103, 104, 105, 106, 107, 108] : List UInt8)] : List (List UInt8)) := ro_of_box aj d9 da R R (cells_at (cs := [Vs ([97] : List UInt8), Vs ([98] : List UInt8), Vs ([99] : List UInt8), Vs ([100] : List UInt8), Vs ([101] : List UInt8), Vs ([110, 111, 114, 116, 104] : List UInt8), Vs ([115, 111, 117, 116, 104] : List UInt8), Vs ([112, 111, 114, 116, 49] : List UInt8), Vs ([120, 57] : List UInt8), Vs ([97, 98, 99, 100, 101, 102, 103, 104, 105, 106, 107, 108] : List UInt8)]) (CellsOf.cons (c := [Vs ([97] : List UInt8)]) R (CellsOf.cons (c := [Vs ([98] : List UInt8)]) R (CellsOf.cons (c := [Vs ([99] : List UInt8)]) R (CellsOf.cons (c := [Vs ([100] : List UInt8)]) R (CellsOf.cons (c := [Vs ([101] : List UInt8)]) R (CellsOf.cons (c := [Vs ([110, 111, 114, 116, 104] : List UInt8)]) R (CellsOf.cons (c := [Vs ([115, 111, 117, 116, 104] : List UInt8)]) R (CellsOf.cons (c := [Vs ([112, 111, 114, 116, 49] : List UInt8)]) R (CellsOf.cons (c := [Vs ([120, 57] : List UInt8)]) R (CellsOf.cons (c := [Vs ([97, 98, 99, 100, 101, 102, 103, 104, 105, 106, 107, 108] : List UInt8)]) R CellsOf.nil)))))))))))
 clear da aj
 refine x_build (vs := [(0, .slice (Ad a2 0) (([([97] : List UInt8), ([98] : List UInt8), ([99] : List UInt8), ([100] : List UInt8), ([101] : List UInt8), ([110, 111, 114, 116, 104] : List UInt8), ([115, 111, 117, 116, 104] : List UInt8), ([112, 111, 114, 116, 49] : List UInt8), ([120, 57] : List UInt8), ([97, 98, 99, 100, 101, 102, 103, 104, 105, 106, 107, 108] : List UInt8)] : List (List UInt8))).length 10)]) (.agg #[.slice (Ad a2 0) (([([97] : List UInt8), ([98] : List UInt8), ([99] : List UInt8), ([100] : List UInt8), ([101] : List UInt8), ([110, 111, 114, 116, 104] : List UInt8), ([115, 111, 117, 116, 104] : List UInt8), ([112, 111, 114, 116, 49] : List UInt8), ([120, 57] : List UInt8), ([97, 98, 99, 100, 101, 102, 103, 104, 105, 106, 107, 108] : List UInt8)] : List (List UInt8))).length 10]) R R R (fun _ _ => by kernel_rfl) ?_
 refine x_buildSlice (vs := [(0, .agg #[.slice (Ad a2 0) (([([97] : List UInt8), ([98] : List UInt8), ([99] : List UInt8), ([100] : List UInt8), ([101] : List UInt8), ([110, 111, 114, 116, 104] : List UInt8), ([115, 111, 117, 116, 104] : List UInt8), ([112, 111, 114, 116, 49] : List UInt8), ([120, 57] : List UInt8), ([97, 98, 99, 100, 101, 102, 103, 104, 105, 106, 107, 108] : List UInt8)] : List (List UInt8))).length 10])]) #[.slice (Ad a2 0) (([([97] : List UInt8), ([98] : List UInt8), ([99] : List UInt8), ([100] : List UInt8), ([101] : List UInt8), ([110, 111, 114, 116, 104] : List UInt8), ([115, 111, 117, 116, 104] : List UInt8), ([112, 111, 114, 116, 49] : List UInt8), ([120, 57] : List UInt8), ([97, 98, 99, 100, 101, 102, 103, 104, 105, 106, 107, 108] : List UInt8)] : List (List UInt8))).length 10] 31 R R R (by kernel_rfl) (fun dv di d2 ca bK eX => ?_)
 refine inl1 ?_
 obtain ⟨h, b8⟩ : ∃ du, du = some (⟨dv, 0, none⟩ : Addr) := ⟨_, R⟩
 have co : ∀ s ∈ blk h, dq.heap.size ≤ s ∧ s < di.heap.size := by subst b8; intro s v; simp only [blk, List.mem_singleton] at v; subst v; exact ⟨Nat.le_of_eq d2.symm, lt_of_heap ca⟩
 have k := Stp.push (ls := [[f], a]) (l := blk h) bK (fun _ b => by cases b) (fun s v => (co s v).1)
 replace ah := bK.box ah nn
 replace H := H.step k
 replace y := y.step k
 replace cA := cA.step k
 replace d := d.push bK co
 replace j := j.push (fun s v => Nat.le_trans g.size (co s v).1)
 replace g := g.ext bK
 have p : OwnS (eSl eStr) 31 di (fl [blk h, [f], a]) h 1 ([(([([97] : List UInt8), ([98] : List UInt8), ([99] : List UInt8), ([100] : List UInt8), ([101] : List UInt8), ([110, 111, 114, 116, 104] : List UInt8), ([115, 111, 117, 116, 104] : List UInt8), ([112, 111, 114, 116, 49] : List UInt8), ([120, 57] : List UInt8), ([97, 98, 99, 100, 101, 102, 103, 104, 105, 106, 107, 108] : List UInt8)] : List (List UInt8)))] : List (List (List UInt8))) := by have c3 := own_of_box (e := (eSl eStr)) (T := 31) (M := fl [blk h, [f], a]) (xs := ([(([([97] : List UInt8), ([98] : List UInt8), ([99] : List UInt8), ([100] : List UInt8), ([101] : List UInt8), ([110, 111, 114, 116, 104] : List UInt8), ([115, 111, 117, 116, 104] : List UInt8), ([112, 111, 114, 116, 49] : List UInt8), ([120, 57] : List UInt8), ([97, 98, 99, 100, 101, 102, 103, 104, 105, 106, 107, 108] : List UInt8)] : List (List UInt8)))] : List (List (List UInt8)))) ca (by decide) R R (cells_at (cs := [.slice (Ad a2 0) (([([97] : List UInt8), ([98] : List UInt8), ([99] : List UInt8), ([100] : List UInt8), ([101] : List UInt8), ([110, 111, 114, 116, 104] : List UInt8), ([115, 111, 117, 116, 104] : List UInt8), ([112, 111, 114, 116, 49] : List UInt8), ([120, 57] : List UInt8), ([97, 98, 99, 100, 101, 102, 103, 104, 105, 106, 107, 108] : List UInt8)] : List (List UInt8))).length 10]) (CellsOf.cons (c := [.slice (Ad a2 0) (([([97] : List UInt8), ([98] : List UInt8), ([99] : List UInt8), ([100] : List UInt8), ([101] : List UInt8), ([110, 111, 114, 116, 104] : List UInt8), ([115, 111, 117, 116, 104] : List UInt8), ([112, 111, 114, 116, 49] : List UInt8), ([120, 57] : List UInt8), ([97, 98, 99, 100, 101, 102, 103, 104, 105, 106, 107, 108] : List UInt8)] : List (List UInt8))).length 10]) ⟨(Ad a2 0), 10, R, cA⟩ CellsOf.nil)); rw [← b8] at c3; exact c3
 clear ca
 rw [← b8]
 refine x_u 1 [(9, .slice h (([(([([97] : List UInt8), ([98] : List UInt8), ([99] : List UInt8), ([100] : List UInt8), ([101] : List UInt8), ([110, 111, 114, 116, 104] : List UInt8), ([115, 111, 117, 116, 104] : List UInt8), ([112, 111, 114, 116, 49] : List UInt8), ([120, 57] : List UInt8), ([97, 98, 99, 100, 101, 102, 103, 104, 105, 106, 107, 108] : List UInt8)] : List (List UInt8)))] : List (List (List UInt8)))).length 1)] (x_ek (c_nm [(1, Vi (Int.tmod (i64.wrap ((Int.tmod w 3) + 3)) 3)), (2, Vi al), (7, Vp f 0), (8, Vl af aB.1 aE), (9, .slice h (([(([([97] : List UInt8), ([98] : List UInt8), ([99] : List UInt8), ([100] : List UInt8), ([101] : List UInt8), ([110, 111, 114, 116, 104] : List UInt8), ([115, 111, 117, 116, 104] : List UInt8), ([112, 111, 114, 116, 49] : List UInt8), ([120, 57] : List UInt8), ([97, 98, 99, 100, 101, 102, 103, 104, 105, 106, 107, 108] : List UInt8)] : List (List UInt8)))] : List (List (List UInt8)))).length 1)] (fun J => ?_)))
 refine c_sp (x_u 1 [(10, Vi 0)] (x_ek (c_join (σ := (List (List (List UInt8))) × Int) (fun A => match A with | (ao, Z) => [(1, Vi (Int.tmod (i64.wrap ((Int.tmod w 3) + 3)) 3)), (2, Vi al), (7, Vp f 0), (8, Vl af aB.1 aE), (9, Vl h ao 1), (10, Vi Z)]) (fun A x => match A with | (ao, Z) => law17_PlannerLimits_J13 w al a1 aB ao Z = some bG ∧ Ev [] G x ∧ MS x [[f], blk h, a] ∧ FR G.heap.size [[f], blk h] ∧ SlR (eInt .i64) x (fl [[f], blk h, a]) ba bg a1.1 ∧ x.heap[f]? = some (.cells #[Vl ba a1.1 bg, Vi aB.2] 90 (0, 0)) ∧ SlR (eProd eStr (eProd (eInt .i64) (eProd (eInt .i64) (eProd (eInt .i64) (eProd (eInt .i64) (eProd (eInt .i64) (eProd eBool eStr))))))) x (fl [[f], blk h, a]) af aE aB.1 ∧ OwnS (eSl eStr) 31 x (fl [[f], blk h, a]) h 1 ao) ?_ ?_)))
 · refine c_sp (x_u 2 [(32, Vi (Int.tmod (i64.wrap ((Int.tmod w 3) + 3)) 3)), (33, .bool (decide ((Int.tmod (i64.wrap ((Int.tmod w 3) + 3)) 3) > 1)))] (x_ek (c_if (decide ((Int.tmod (i64.wrap ((Int.tmod w 3) + 3)) 3) > 1)) R b (fun b => ?_) (fun b => ?_))))
   · refine c_plain (x_u 1 [(10, Vi 3)] (x_end R ?_))
     have r := d.pick [some 1, some 0, some 2] [[f], blk h, a] R
     have m := pick_sub (ls := [blk h, [f], a]) [some 1, some 0, some 2] [[f], blk h, a] R
     replace H := H.sub m
     replace y := y.sub m
     replace p := p.sub m
     replace d := r
     replace j := j.pick [some 1, some 0] [[f], blk h] R
     clear r m
     exact k_then ⟨(([(([([97] : List UInt8), ([98] : List UInt8), ([99] : List UInt8), ([100] : List UInt8), ([101] : List UInt8), ([110, 111, 114, 116, 104] : List UInt8), ([115, 111, 117, 116, 104] : List UInt8), ([112, 111, 114, 116, 49] : List UInt8), ([120, 57] : List UInt8), ([97, 98, 99, 100, 101, 102, 103, 104, 105, 106, 107, 108] : List UInt8)] : List (List UInt8)))] : List (List (List UInt8))), 3), ⟨R, R, R, R, R, R, trivial⟩, b, g, d, j, H, ah, y, p⟩
   refine c_skip ?_
   have r := d.pick [some 1, some 0, some 2] [[f], blk h, a] R
   have m := pick_sub (ls := [blk h, [f], a]) [some 1, some 0, some 2] [[f], blk h, a] R
   replace H := H.sub m
   replace y := y.sub m
   replace p := p.sub m
   replace d := r
   replace j := j.pick [some 1, some 0] [[f], blk h] R
   clear r m
   exact k_then ⟨(([(([([97] : List UInt8), ([98] : List UInt8), ([99] : List UInt8), ([100] : List UInt8), ([101] : List UInt8), ([110, 111, 114, 116, 104] : List UInt8), ([115, 111, 117, 116, 104] : List UInt8), ([112, 111, 114, 116, 49] : List UInt8), ([120, 57] : List UInt8), ([97, 98, 99, 100, 101, 102, 103, 104, 105, 106, 107, 108] : List UInt8)] : List (List UInt8)))] : List (List (List UInt8))), 0), ⟨R, R, R, R, R, R, trivial⟩, b, g, d, j, H, ah, y, p⟩
 rintro ⟨ao, Z⟩ J bk ⟨b, g, d, j, H, ah, y, p⟩
 refine c_join (σ := (List ((List UInt8) × Int × Int × Int × Int × Int × Bool × (List UInt8))) × (List (List (List UInt8))) × Option Addr × Nat × Option Addr × Nat) (fun A => match A with | (E, Y, aa, ab, t, ad) => [(8, Vl aa E ab), (9, Vl t Y ad), (10, Vi Z)]) (fun A x => match A with | (E, Y, aa, ab, t, ad) => law17_PlannerLimits_J14 Z E Y = some bG ∧ Ev [] G x ∧ MS x [blk t, a] ∧ FR G.heap.size [blk t] ∧ SlR (eProd eStr (eProd (eInt .i64) (eProd (eInt .i64) (eProd (eInt .i64) (eProd (eInt .i64) (eProd (eInt .i64) (eProd eBool eStr))))))) x (fl [blk t, a]) aa ab E ∧ OwnS (eSl eStr) 31 x (fl [blk t, a]) t ad Y) ?_ ?_
 · refine c_sp (x_u 4 [(34, Vi al), (35, Vi (Int.tmod al 4)), (36, Vi (i64.wrap ((Int.tmod al 4) + 4))), (37, Vi (Int.tmod (i64.wrap ((Int.tmod al 4) + 4)) 4))] (x_ek (c_nm [(1, Vi (Int.tmod (i64.wrap ((Int.tmod w 3) + 3)) 3)), (7, Vp f 0), (8, Vl af aB.1 aE), (9, Vl h ao 1), (10, Vi Z), (37, Vi (Int.tmod (i64.wrap ((Int.tmod al 4) + 4)) 4))] (fun J => ?_))))
   refine c_block (c_sp (x_u 2 [(76, .bool ((Int.tmod (i64.wrap ((Int.tmod al 4) + 4)) 4) == 0)), (75, .bool ((Int.tmod (i64.wrap ((Int.tmod al 4) + 4)) 4) == 0))] (x_ek (c_if ((Int.tmod (i64.wrap ((Int.tmod al 4) + 4)) 4) == 0) R b (fun b => ?_) (fun b => ?_)))))
   · refine c_block ?_
     have r := d.pick [some 1, some 2] [blk h, a] R
     have m := pick_sub (ls := [[f], blk h, a]) [some 1, some 2] [blk h, a] R
     replace y := y.sub m
     replace p := p.sub m
     replace d := r
     replace j := j.pick [some 1] [blk h] R
     clear r m
     obtain ⟨dw, cb, dB⟩ := bind_some b
     obtain ⟨bB, cb⟩ := loop_some cb
     refine c_loop (loop_rule hmx (σ := Nat × (List (List (List UInt8))) × Option Addr × Nat) (fun A => match A with | (_, av, ar, aI) => [(1, Vi (Int.tmod (i64.wrap ((Int.tmod w 3) + 3)) 3)), (8, Vl af aB.1 aE), (9, Vl ar av aI), (10, Vi Z)]) (fun A x => match A with | (a0, av, ar, aI) => loopN (law17_PlannerLimits_L15 w) a0 av = some dw ∧ Ev [] G x ∧ MS x [blk ar, a] ∧ FR G.heap.size [blk ar] ∧ SlR (eProd eStr (eProd (eInt .i64) (eProd (eInt .i64) (eProd (eInt .i64) (eProd (eInt .i64) (eProd (eInt .i64) (eProd eBool eStr))))))) x (fl [blk ar, a]) af aE aB.1 ∧ OwnS (eSl eStr) 31 x (fl [blk ar, a]) ar aI av) (fun A => A.1) (bB, ao, h, 1) ⟨R, R, R, R, trivial⟩ ⟨cb, g, d, j, y, p⟩ ?_)
     rintro ⟨bB, av, ar, aI⟩ J fj ⟨bu, g, d, j, y, p⟩
     rcases bB with _ | bB
     · exact (loopN_zero bu).elim
     obtain ⟨e7, b, bu⟩ := bind_some bu
     refine c_seq (c_sp (x_u 1 [(77, Vl ar av aI)] (x_len (vs := [Vl ar av aI]) (Vi ((av).length : Int)) R R R (reads_len tsl23 _ _ _ _ _) (x_u 3 [(79, Vi (Int.tmod (i64.wrap ((Int.tmod w 3) + 3)) 3)), (80, Vi (i64.wrap (15 + (Int.tmod (i64.wrap ((Int.tmod w 3) + 3)) 3)))), (81, .bool (decide (((av).length : Int) < (i64.wrap (15 + (Int.tmod (i64.wrap ((Int.tmod w 3) + 3)) 3))))))] (x_ek (c_nm [(1, Vi (Int.tmod (i64.wrap ((Int.tmod w 3) + 3)) 3)), (8, Vl af aB.1 aE), (9, Vl ar av aI), (10, Vi Z), (81, .bool (decide (((av).length : Int) < (i64.wrap (15 + (Int.tmod (i64.wrap ((Int.tmod w 3) + 3)) 3))))))] (fun J => ?_)))))))
     refine c_if (decide (((av).length : Int) < (i64.wrap (15 + (Int.tmod (i64.wrap ((Int.tmod w 3) + 3)) 3))))) R b (fun b => ?_) (fun b => ?_)
     · refine c_skip (k_then (c_block (c_plain (x_u 1 [(82, Vl ar av aI)] (x_build (vs := []) (.agg #[.slice none 0 0]) R R R (fun _ _ => by kernel_rfl) ?_)))))
       refine x_buildSlice (vs := [(0, .agg #[.slice none 0 0])]) #[.slice none 0 0] 31 R R R (by kernel_rfl) (fun cL dj d3 c4 bL eY => ?_)
       refine inl1 ?_
       have aj := d
       have k := Stp.ext (ls := [blk ar, a]) bL
       replace y := y.step k
       replace p := p.step k bL nn2
       replace d := d.ev bL
       replace g := g.ext bL
       have el : SlR (eSl eStr) dj (fl [blk ar, a]) (Ad cL 0) 1 ([([])] : List (List (List UInt8))) := ro_of_box aj d3 c4 R R (cells_at (cs := [.slice none 0 0]) (CellsOf.cons (c := [.slice none 0 0]) ⟨none, 0, R, SlR.empty _ _ _⟩ CellsOf.nil))
       clear c4 aj
       have aX := guard_l b
       replace b := guard_r b
       obtain ⟨a9, cX, cB, ea, cg, cp, eN, dd⟩ := own_appendN tel23 23 p (mem_flat 0 R) el aX
       refine x_builtin (vs := [Vl ar av aI, .slice (Ad cL 0) (([([])] : List (List (List UInt8)))).length 1]) _ cB R R R R (run_value _ _ _ _ ea) (inl1 ?_)
       have k : Stp (fl [blk ar, a]) dj (fl [blk a9, a]) cB := Stp.upd 0 cg R (fun s v => (cp s v).1)
       replace y := y.step k
       replace d : MS cB [blk a9, a] := d.upd 0 cg R cp
       have Q : FR G.heap.size [blk a9] := j.upd 0 R g.size (fun s v => (cp s v).1)
       replace g := g.then cg (fun s v => .inr (j.at 0 R s v))
       replace j := Q
       clear Q
       replace p := dd (fl [blk a9, a]) k.new
       clear dd
       refine x_u 1 [(9, .slice a9 ((av ++ ([([])] : List (List (List UInt8))))).length cX)] (x_end R (k_block ?_))
       obtain rfl := some_inj b
       exact k_then ⟨(bB, (av ++ ([([])] : List (List (List UInt8)))), a9, cX), ⟨R, R, R, R, trivial⟩, ⟨bu, g, d, j, y, p⟩, Nat.lt_succ_self _⟩
     refine c_exit (k_then_exit ?_)
     obtain rfl := some_inj b
     have aA := some_inj bu
     subst aA
     replace b := dB
     refine k_then_exit (k_block_in (k_block ?_))
     exact k_then ⟨(aB.1, av, af, aE, ar, aI), ⟨R, R, R, trivial⟩, b, g, d, j, y, p⟩
   refine c_sp (x_u 2 [(87, .bool ((Int.tmod (i64.wrap ((Int.tmod al 4) + 4)) 4) == 1)), (86, .bool ((Int.tmod (i64.wrap ((Int.tmod al 4) + 4)) 4) == 1))] (x_ek (c_if ((Int.tmod (i64.wrap ((Int.tmod al 4) + 4)) 4) == 1) R b (fun b => ?_) (fun b => ?_))))
   · refine c_sp (x_u 1 [(11, .slice none 0 0)] (x_ek (c_seq (c_block ?_))))
     have k := Stp.push (ls := [[f], blk h, a]) (l := blk none) (Ev.refl [] bk) (fun _ b => by cases b) (fun _ b => by cases b)
     replace y := y.step k
     replace p := p.step k (Ev.refl [] _) nn2
     replace d := d.push (l := blk none) (Ev.refl [] _) (fun _ b => by cases b)
     replace j := j.push (l := blk none) (fun _ b => by cases b)
     have cv := OwnS.nil eStr 9 bk (fl [blk none, [f], blk h, a])
     have r := d.pick [some 2, some 0, some 3] [blk h, blk none, a] R
     have m := pick_sub (ls := [blk none, [f], blk h, a]) [some 2, some 0, some 3] [blk h, blk none, a] R
     replace y := y.sub m
     replace p := p.sub m
     replace cv := cv.sub m
     replace d := r
     replace j := j.pick [some 2, some 0] [blk h, blk none] R
     clear r m
     obtain ⟨dx, cc, dC⟩ := bind_some b
     obtain ⟨bC, cc⟩ := loop_some cc
     refine c_loop (loop_rule hmx (σ := Nat × (List (List UInt8)) × Option Addr × Nat) (fun A => match A with | (_, U, X, aq) => [(1, Vi (Int.tmod (i64.wrap ((Int.tmod w 3) + 3)) 3)), (8, Vl af aB.1 aE), (9, Vl h ao 1), (10, Vi Z), (11, Vl X U aq)]) (fun A x => match A with | (a0, U, X, aq) => loopN (law17_PlannerLimits_L20 w) a0 U = some dx ∧ Ev [] G x ∧ MS x [blk h, blk X, a] ∧ FR G.heap.size [blk h, blk X] ∧ SlR (eProd eStr (eProd (eInt .i64) (eProd (eInt .i64) (eProd (eInt .i64) (eProd (eInt .i64) (eProd (eInt .i64) (eProd eBool eStr))))))) x (fl [blk h, blk X, a]) af aE aB.1 ∧ OwnS (eSl eStr) 31 x (fl [blk h, blk X, a]) h 1 ao ∧ OwnS eStr 9 x (fl [blk h, blk X, a]) X aq U) (fun A => A.1) (bC, ([] : List (List UInt8)), none, 0) ⟨R, R, R, R, R, trivial⟩ ⟨cc, g, d, j, y, p, cv⟩ ?_)
     rintro ⟨bC, U, X, aq⟩ J fk ⟨bv, g, d, j, y, p, aJ⟩
     rcases bC with _ | bC
     · exact (loopN_zero bv).elim
     obtain ⟨e8, b, bv⟩ := bind_some bv
     refine c_seq (c_sp (x_u 1 [(88, Vl X U aq)] (x_len (vs := [Vl X U aq]) (Vi ((U).length : Int)) R R R (reads_len tsl29 _ _ _ _ _) (x_u 3 [(90, Vi (Int.tmod (i64.wrap ((Int.tmod w 3) + 3)) 3)), (91, Vi (i64.wrap (31 + (Int.tmod (i64.wrap ((Int.tmod w 3) + 3)) 3)))), (92, .bool (decide (((U).length : Int) < (i64.wrap (31 + (Int.tmod (i64.wrap ((Int.tmod w 3) + 3)) 3))))))] (x_ek (c_nm [(1, Vi (Int.tmod (i64.wrap ((Int.tmod w 3) + 3)) 3)), (8, Vl af aB.1 aE), (9, Vl h ao 1), (10, Vi Z), (11, Vl X U aq), (92, .bool (decide (((U).length : Int) < (i64.wrap (31 + (Int.tmod (i64.wrap ((Int.tmod w 3) + 3)) 3))))))] (fun J => ?_)))))))
     refine c_if (decide (((U).length : Int) < (i64.wrap (31 + (Int.tmod (i64.wrap ((Int.tmod w 3) + 3)) 3))))) R b (fun b => ?_) (fun b => ?_)
     · refine c_skip (k_then (c_block (c_plain (x_u 1 [(93, Vl X U aq)] (x_buildSlice (vs := [(0, Vs ([122, 122] : List UInt8))]) #[Vs ([122, 122] : List UInt8)] 9 R R R (by kernel_rfl) (fun cN dk d4 c5 bq eZ => ?_))))))
       refine inl1 ?_
       have aj := d
       have k := Stp.ext (ls := [blk h, blk X, a]) bq
       replace y := y.step k
       replace p := p.step k bq nn2
       replace aJ := aJ.step k bq nn2
       replace d := d.ev bq
       replace g := g.ext bq
       have em : SlR eStr dk (fl [blk h, blk X, a]) (Ad cN 0) 1 ([([122, 122] : List UInt8)] : List (List UInt8)) := ro_of_box aj d4 c5 R R (cells_at (cs := [Vs ([122, 122] : List UInt8)]) (CellsOf.cons (c := [Vs ([122, 122] : List UInt8)]) R CellsOf.nil))
       clear c5 aj
       have aX := guard_l b
       replace b := guard_r b
       obtain ⟨bb, cY, cC, eb, bN, cq, eO, de⟩ := own_appendN tel29 29 aJ (mem_flat 1 R) em aX
       refine x_builtin (vs := [Vl X U aq, .slice (Ad cN 0) (([([122, 122] : List UInt8)] : List (List UInt8))).length 1]) _ cC R R R R (run_value _ _ _ _ eb) (inl1 ?_)
       have k : Stp (fl [blk h, blk X, a]) dk (fl [blk h, blk bb, a]) cC := Stp.upd 1 bN R (fun s v => (cq s v).1)
       replace y := y.step k
       replace p := p.step k bN (d.apart 0 1 R R R)
       replace d : MS cC [blk h, blk bb, a] := d.upd 1 bN R cq
       have Q : FR G.heap.size [blk h, blk bb] := j.upd 1 R g.size (fun s v => (cq s v).1)
       replace g := g.then bN (fun s v => .inr (j.at 1 R s v))
       replace j := Q
       clear Q
       replace aJ := de (fl [blk h, blk bb, a]) k.new
       clear de
       refine x_u 1 [(11, .slice bb ((U ++ ([([122, 122] : List UInt8)] : List (List UInt8)))).length cY)] (x_end R (k_block ?_))
       obtain rfl := some_inj b
       exact k_then ⟨(bC, (U ++ ([([122, 122] : List UInt8)] : List (List UInt8))), bb, cY), ⟨R, R, R, R, R, trivial⟩, ⟨bv, g, d, j, y, p, aJ⟩, Nat.lt_succ_self _⟩
     refine c_exit (k_then_exit ?_)
     obtain rfl := some_inj b
     have aA := some_inj bv
     subst aA
     replace b := dC
     refine k_then_exit (k_block_in (k_then (c_nm [(8, Vl af aB.1 aE), (9, Vl h ao 1), (10, Vi Z), (11, Vl X U aq)] (fun J => ?_))))
     refine c_plain (x_u 2 [(96, Vl h ao 1), (97, Vl X U aq)] (x_build (vs := [(0, Vl X U aq)]) (.agg #[Vl X U aq]) R R R (fun _ _ => by kernel_rfl) ?_))
     have r := d.pick [some 0, some 2] [blk h, a] R
     have m := pick_sub (ls := [blk h, blk X, a]) [some 0, some 2] [blk h, a] R
     replace y := y.sub m
     replace p := p.sub m
     replace aJ := aJ.ro m (pick_out d 1 R [some 0, some 2] [blk h, a] R R)
     replace d := r
     replace j := j.pick [some 0] [blk h] R
     clear r m
     refine x_buildSlice (vs := [(0, .agg #[Vl X U aq])]) #[Vl X U aq] 31 R R R (by kernel_rfl) (fun cO dl d5 c6 bO e0 => ?_)
     refine inl1 ?_
     have aj := d
     have k := Stp.ext (ls := [blk h, a]) bO
     replace y := y.step k
     replace p := p.step k bO nn2
     replace aJ := aJ.step k
     replace d := d.ev bO
     replace g := g.ext bO
     have en : SlR (eSl eStr) dl (fl [blk h, a]) (Ad cO 0) 1 ([(U)] : List (List (List UInt8))) := ro_of_box aj d5 c6 R R (cells_at (cs := [Vl X U aq]) (CellsOf.cons (c := [Vl X U aq]) ⟨X, aq, R, aJ⟩ CellsOf.nil))
     clear c6 aj
     have aX := guard_l b
     replace b := guard_r b
     obtain ⟨bc, cZ, cD, ec, ch, cr, eQ, df⟩ := own_appendN tel23 23 p (mem_flat 0 R) en aX
     refine x_builtin (vs := [Vl h ao 1, .slice (Ad cO 0) (([(U)] : List (List (List UInt8)))).length 1]) _ cD R R R R (run_value _ _ _ _ ec) (inl1 ?_)
     have k : Stp (fl [blk h, a]) dl (fl [blk bc, a]) cD := Stp.upd 0 ch R (fun s v => (cr s v).1)
     replace y := y.step k
     replace d : MS cD [blk bc, a] := d.upd 0 ch R cr
     have Q : FR G.heap.size [blk bc] := j.upd 0 R g.size (fun s v => (cr s v).1)
     replace g := g.then ch (fun s v => .inr (j.at 0 R s v))
     replace j := Q
     clear Q
     replace p := df (fl [blk bc, a]) k.new
     clear df
     refine x_u 1 [(9, .slice bc ((ao ++ ([(U)] : List (List (List UInt8))))).length cZ)] (x_end R (k_block ?_))
     exact k_then ⟨(aB.1, (ao ++ ([(U)] : List (List (List UInt8)))), af, aE, bc, cZ), ⟨R, R, R, trivial⟩, b, g, d, j, y, p⟩
   refine c_sp (x_u 2 [(102, .bool ((Int.tmod (i64.wrap ((Int.tmod al 4) + 4)) 4) == 2)), (101, .bool ((Int.tmod (i64.wrap ((Int.tmod al 4) + 4)) 4) == 2))] (x_ek (c_if ((Int.tmod (i64.wrap ((Int.tmod al 4) + 4)) 4) == 2) R b (fun b => ?_) (fun b => ?_))))
   · refine c_sp (x_u 1 [(8, .slice none 0 0)] (x_ek (c_sp (x_u 1 [(12, Vi 0)] (x_ek (c_block ?_))))))
     have k := Stp.push (ls := [[f], blk h, a]) (l := blk none) (Ev.refl [] bk) (fun _ b => by cases b) (fun _ b => by cases b)
     replace ah := (Ev.refl [] _).box ah nn
     replace H := H.step k
     replace p := p.step k (Ev.refl [] _) nn2
     replace d := d.push (l := blk none) (Ev.refl [] _) (fun _ b => by cases b)
     replace j := j.push (l := blk none) (fun _ b => by cases b)
     have cw := OwnS.nil (eProd eStr (eProd (eInt .i64) (eProd (eInt .i64) (eProd (eInt .i64) (eProd (eInt .i64) (eProd (eInt .i64) (eProd eBool eStr))))))) 34 bk (fl [blk none, [f], blk h, a])
     have r := d.pick [some 1, some 0, some 2, some 3] [[f], blk none, blk h, a] R
     have m := pick_sub (ls := [blk none, [f], blk h, a]) [some 1, some 0, some 2, some 3] [[f], blk none, blk h, a] R
     replace H := H.sub m
     replace cw := cw.sub m
     replace p := p.sub m
     replace d := r
     replace j := j.pick [some 1, some 0, some 2] [[f], blk none, blk h] R
     clear r m
     obtain ⟨dy, cd, dD⟩ := bind_some b
     obtain ⟨bD, cd⟩ := loop_some cd
     refine c_loop (loop_rule hmx (σ := Nat × Int × (List ((List UInt8) × Int × Int × Int × Int × Int × Bool × (List UInt8))) × Int × Option Addr × Nat) (fun A => match A with | (_, bo, aF, aD, K, a3) => [(1, Vi (Int.tmod (i64.wrap ((Int.tmod w 3) + 3)) 3)), (7, Vp f 0), (8, Vl K aF a3), (9, Vl h ao 1), (10, Vi Z), (12, Vi aD)]) (fun A x => match A with | (a0, bo, aF, aD, K, a3) => loopN (law17_PlannerLimits_L29 w a1) a0 (bo, aF, aD) = some dy ∧ Ev [] G x ∧ MS x [[f], blk K, blk h, a] ∧ FR G.heap.size [[f], blk K, blk h] ∧ SlR (eInt .i64) x (fl [[f], blk K, blk h, a]) ba bg a1.1 ∧ x.heap[f]? = some (.cells #[Vl ba a1.1 bg, Vi bo] 90 (0, 0)) ∧ OwnS (eProd eStr (eProd (eInt .i64) (eProd (eInt .i64) (eProd (eInt .i64) (eProd (eInt .i64) (eProd (eInt .i64) (eProd eBool eStr))))))) 34 x (fl [[f], blk K, blk h, a]) K a3 aF ∧ OwnS (eSl eStr) 31 x (fl [[f], blk K, blk h, a]) h 1 ao) (fun A => A.1) (bD, aB.2, ([] : List ((List UInt8) × Int × Int × Int × Int × Int × Bool × (List UInt8))), 0, none, 0) ⟨R, R, R, R, R, R, trivial⟩ ⟨cd, g, d, j, H, ah, cw, p⟩ ?_)
     rintro ⟨bD, bo, aF, aD, K, a3⟩ J cH ⟨bw, g, d, j, H, ah, aK, p⟩
     rcases bD with _ | bD
     · exact (loopN_zero bw).elim
     obtain ⟨e9, b, bw⟩ := bind_some bw
     refine c_seq (c_sp (x_u 4 [(103, Vi aD), (104, Vi (Int.tmod (i64.wrap ((Int.tmod w 3) + 3)) 3)), (105, Vi (i64.wrap (95 + (Int.tmod (i64.wrap ((Int.tmod w 3) + 3)) 3)))), (106, .bool (decide (aD < (i64.wrap (95 + (Int.tmod (i64.wrap ((Int.tmod w 3) + 3)) 3))))))] (x_ek (c_nm [(1, Vi (Int.tmod (i64.wrap ((Int.tmod w 3) + 3)) 3)), (7, Vp f 0), (8, Vl K aF a3), (9, Vl h ao 1), (10, Vi Z), (12, Vi aD), (106, .bool (decide (aD < (i64.wrap (95 + (Int.tmod (i64.wrap ((Int.tmod w 3) + 3)) 3))))))] (fun J => ?_)))))
     refine c_if (decide (aD < (i64.wrap (95 + (Int.tmod (i64.wrap ((Int.tmod w 3) + 3)) 3))))) R b (fun b => ?_) (fun b => ?_)
     · refine c_skip (k_then (c_seq (c_block (c_plain (x_u 3 [(109, Vl K aF a3), (110, Vp f 0), (111, Vi aD)] ?_)))))
       obtain ⟨i, B, b⟩ := bind_some b
       have r : MS cH ([[f]] ++ [blk K, blk h, a]) := d.pick [some 0, some 1, some 2, some 3] _ R
       have bz : ∀ F ∈ fl ([[f]] ++ [blk K, blk h, a]), F ∈ fl [[f], blk K, blk h, a] := pick_sub [some 0, some 1, some 2, some 3] _ R
       have ak : ∀ F ∈ fl ([[f]] ++ [(fl [blk K, blk h, a])]), F ∈ fl [[f], blk K, blk h, a] := fun F B => bz F (fl_unfold F B)
       have O := gen_Maker_Wagon_w f ba bg a1.1 bo aD _ cH (fl [blk K, blk h, a]) (r.fold (P := [[f]])) (H.sub ak) ah B
       refine x_call 29 #[] #[] [Vp f 0, Vi aD] _ R R R R O ?_
       rintro aH fc ⟨rfl, br, d0⟩
       clear O B
       refine inl1 ?_
       have aZ : MS cH ([[f]] ++ [blk K, blk h, a]) := d.pick [some 0, some 1, some 2, some 3] _ R
       have a6 : ∀ F ∈ fl ([[f]] ++ [blk K, blk h, a]), F ∈ fl [[f], blk K, blk h, a] := pick_sub [some 0, some 1, some 2, some 3] _ R
       have bA := Stp.call (LS := [[f], blk K, blk h, a]) (res := []) (par := [[f]]) (R := [blk K, blk h, a]) br (fun s v => a6 s (fl_left' (P := [[f]]) s v)) (FR.nil _) (NP.init _ _) (fun F B => a6 F (fl_right' (P := [[f]]) F B))
       have a4 : ∀ F ∈ fl [[f], blk K, blk h, a], F ∈ fl ([] ++ ([[f]] ++ [blk K, blk h, a])) := pick_sub [some 0, some 1, some 2, some 3] _ R
       have k := bA.res a4
       replace H := H.step k
       replace aK := aK.step k br (MS.outs (P := [[f]]) aZ 0 R)
       replace p := p.step k br (MS.outs (P := [[f]]) aZ 1 R)
       replace d := d.ev br
       have b9 : ∀ s ∈ fl [[f]], G.heap.size ≤ s := FR.mem (ls := [[f]]) (j.pick [some 0] _ R)
       replace g := g.then br (fun s v => .inr (b9 s v))
       replace ah := d0
       clear r ak bz aZ a6 bA a4 k
       refine x_buildSlice (vs := [(0, .agg #[Vs i.1.1, Vi i.1.2.1, Vi i.1.2.2.1, Vi i.1.2.2.2.1, Vi i.1.2.2.2.2.1, Vi i.1.2.2.2.2.2.1, .bool i.1.2.2.2.2.2.2.1, Vs i.1.2.2.2.2.2.2.2])]) #[Vs i.1.1, Vi i.1.2.1, Vi i.1.2.2.1, Vi i.1.2.2.2.1, Vi i.1.2.2.2.2.1, Vi i.1.2.2.2.2.2.1, .bool i.1.2.2.2.2.2.2.1, Vs i.1.2.2.2.2.2.2.2] 34 R R R (by kernel_rfl) (fun cQ dm d6 c7 bj e1 => ?_)
       refine inl1 ?_
       have aj := d
       have k := Stp.ext (ls := [[f], blk K, blk h, a]) bj
       replace ah := bj.box ah nn
       replace H := H.step k
       replace aK := aK.step k bj nn2
       replace p := p.step k bj nn2
       replace d := d.ev bj
       replace g := g.ext bj
       have eo : SlR (eProd eStr (eProd (eInt .i64) (eProd (eInt .i64) (eProd (eInt .i64) (eProd (eInt .i64) (eProd (eInt .i64) (eProd eBool eStr))))))) dm (fl [[f], blk K, blk h, a]) (Ad cQ 0) 1 ([(i.1.1, i.1.2.1, i.1.2.2.1, i.1.2.2.2.1, i.1.2.2.2.2.1, i.1.2.2.2.2.2.1, i.1.2.2.2.2.2.2.1, i.1.2.2.2.2.2.2.2)] : List ((List UInt8) × Int × Int × Int × Int × Int × Bool × (List UInt8))) := ro_of_box aj d6 c7 R R (cells_at (cs := [Vs i.1.1, Vi i.1.2.1, Vi i.1.2.2.1, Vi i.1.2.2.2.1, Vi i.1.2.2.2.2.1, Vi i.1.2.2.2.2.2.1, .bool i.1.2.2.2.2.2.2.1, Vs i.1.2.2.2.2.2.2.2]) (CellsOf.cons (c := [Vs i.1.1, Vi i.1.2.1, Vi i.1.2.2.1, Vi i.1.2.2.2.1, Vi i.1.2.2.2.2.1, Vi i.1.2.2.2.2.2.1, .bool i.1.2.2.2.2.2.2.1, Vs i.1.2.2.2.2.2.2.2]) ⟨[Vs i.1.1], [Vi i.1.2.1, Vi i.1.2.2.1, Vi i.1.2.2.2.1, Vi i.1.2.2.2.2.1, Vi i.1.2.2.2.2.2.1, .bool i.1.2.2.2.2.2.2.1, Vs i.1.2.2.2.2.2.2.2], R, R, ⟨[Vi i.1.2.1], [Vi i.1.2.2.1, Vi i.1.2.2.2.1, Vi i.1.2.2.2.2.1, Vi i.1.2.2.2.2.2.1, .bool i.1.2.2.2.2.2.2.1, Vs i.1.2.2.2.2.2.2.2], R, R, ⟨[Vi i.1.2.2.1], [Vi i.1.2.2.2.1, Vi i.1.2.2.2.2.1, Vi i.1.2.2.2.2.2.1, .bool i.1.2.2.2.2.2.2.1, Vs i.1.2.2.2.2.2.2.2], R, R, ⟨[Vi i.1.2.2.2.1], [Vi i.1.2.2.2.2.1, Vi i.1.2.2.2.2.2.1, .bool i.1.2.2.2.2.2.2.1, Vs i.1.2.2.2.2.2.2.2], R, R, ⟨[Vi i.1.2.2.2.2.1], [Vi i.1.2.2.2.2.2.1, .bool i.1.2.2.2.2.2.2.1, Vs i.1.2.2.2.2.2.2.2], R, R, ⟨[Vi i.1.2.2.2.2.2.1], [.bool i.1.2.2.2.2.2.2.1, Vs i.1.2.2.2.2.2.2.2], R, R, ⟨[.bool i.1.2.2.2.2.2.2.1], [Vs i.1.2.2.2.2.2.2.2], R, R, R⟩⟩⟩⟩⟩⟩⟩ CellsOf.nil))
       clear c7 aj
       have aX := guard_l b
       replace b := guard_r b
       obtain ⟨bd, c0, cE, ed, bs, ct, eS, dg⟩ := own_appendN tel24 24 aK (mem_flat 1 R) eo aX
       refine x_builtin (vs := [Vl K aF a3, .slice (Ad cQ 0) (([(i.1.1, i.1.2.1, i.1.2.2.1, i.1.2.2.2.1, i.1.2.2.2.2.1, i.1.2.2.2.2.2.1, i.1.2.2.2.2.2.2.1, i.1.2.2.2.2.2.2.2)] : List ((List UInt8) × Int × Int × Int × Int × Int × Bool × (List UInt8)))).length 1]) _ cE R R R R (run_value _ _ _ _ ed) (inl1 ?_)
       have k : Stp (fl [[f], blk K, blk h, a]) dm (fl [[f], blk bd, blk h, a]) cE := Stp.upd 1 bs R (fun s v => (ct s v).1)
       replace ah := bs.box ah (d.apart 0 1 R R R _ mem1)
       replace H := H.step k
       replace p := p.step k bs (d.apart 2 1 R R R)
       replace d : MS cE [[f], blk bd, blk h, a] := d.upd 1 bs R ct
       have Q : FR G.heap.size [[f], blk bd, blk h] := j.upd 1 R g.size (fun s v => (ct s v).1)
       replace g := g.then bs (fun s v => .inr (j.at 1 R s v))
       replace j := Q
       clear Q
       replace aK := dg (fl [[f], blk bd, blk h, a]) k.new
       clear dg
       refine x_u 1 [(8, .slice bd ((aF ++ ([(i.1.1, i.1.2.1, i.1.2.2.1, i.1.2.2.2.1, i.1.2.2.2.2.1, i.1.2.2.2.2.2.1, i.1.2.2.2.2.2.2.1, i.1.2.2.2.2.2.2.2)] : List ((List UInt8) × Int × Int × Int × Int × Int × Bool × (List UInt8))))).length c0)] (x_end R (k_block (k_then (c_plain (x_u 3 [(107, Vi aD), (108, Vi (i64.wrap (aD + 1))), (12, Vi (i64.wrap (aD + 1)))] (x_end R ?_))))))
       obtain rfl := some_inj b
       exact k_then ⟨(bD, i.2, (aF ++ ([(i.1.1, i.1.2.1, i.1.2.2.1, i.1.2.2.2.1, i.1.2.2.2.2.1, i.1.2.2.2.2.2.1, i.1.2.2.2.2.2.2.1, i.1.2.2.2.2.2.2.2)] : List ((List UInt8) × Int × Int × Int × Int × Int × Bool × (List UInt8)))), i64.wrap (aD + 1), bd, c0), ⟨R, R, R, R, R, R, trivial⟩, ⟨bw, g, d, j, H, ah, aK, p⟩, Nat.lt_succ_self _⟩
     refine c_exit (k_then_exit ?_)
     obtain rfl := some_inj b
     have aA := some_inj bw
     subst aA
     replace b := dD
     refine k_then_exit (k_block_in (k_block ?_))
     have r := d.pick [some 2, some 3] [blk h, a] R
     have m := pick_sub (ls := [[f], blk K, blk h, a]) [some 2, some 3] [blk h, a] R
     replace aK := aK.ro m (pick_out d 1 R [some 2, some 3] [blk h, a] R R)
     replace p := p.sub m
     replace d := r
     replace j := j.pick [some 2] [blk h] R
     clear r m
     exact k_then ⟨(aF, ao, K, a3, h, 1), ⟨R, R, R, trivial⟩, b, g, d, j, aK, p⟩
   refine c_sp (x_u 1 [(13, .slice none 0 0)] (x_ek (c_seq (c_block ?_))))
   have k := Stp.push (ls := [[f], blk h, a]) (l := blk none) (Ev.refl [] bk) (fun _ b => by cases b) (fun _ b => by cases b)
   replace d := d.push (l := blk none) (Ev.refl [] _) (fun _ b => by cases b)
   replace j := j.push (l := blk none) (fun _ b => by cases b)
   have cx := OwnS.nil (eInt .i64) 3 bk (fl [blk none, [f], blk h, a])
   have r := d.pick [some 0, some 3] [blk none, a] R
   have m := pick_sub (ls := [blk none, [f], blk h, a]) [some 0, some 3] [blk none, a] R
   replace cx := cx.sub m
   replace d := r
   replace j := j.pick [some 0] [blk none] R
   clear r m
   obtain ⟨dz, ce, dE⟩ := bind_some b
   obtain ⟨bE, ce⟩ := loop_some ce
   refine c_loop (loop_rule hmx (σ := Nat × (List Int) × Option Addr × Nat) (fun A => match A with | (_, ae, q, aC) => [(1, Vi (Int.tmod (i64.wrap ((Int.tmod w 3) + 3)) 3)), (10, Vi Z), (13, Vl q ae aC)]) (fun A x => match A with | (a0, ae, q, aC) => loopN (law17_PlannerLimits_L39 w) a0 ae = some dz ∧ Ev [] G x ∧ MS x [blk q, a] ∧ FR G.heap.size [blk q] ∧ OwnS (eInt .i64) 3 x (fl [blk q, a]) q aC ae) (fun A => A.1) (bE, ([] : List Int), none, 0) ⟨R, R, R, trivial⟩ ⟨ce, g, d, j, cx⟩ ?_)
   rintro ⟨bE, ae, q, aC⟩ J fm ⟨bx, g, d, j, S⟩
   rcases bE with _ | bE
   · exact (loopN_zero bx).elim
   obtain ⟨fa, b, bx⟩ := bind_some bx
   refine c_seq (c_sp (x_u 1 [(38, Vl q ae aC)] (x_len (vs := [Vl q ae aC]) (Vi ((ae).length : Int)) R R R (reads_len tsl22 _ _ _ _ _) (x_u 3 [(40, Vi (Int.tmod (i64.wrap ((Int.tmod w 3) + 3)) 3)), (41, Vi (i64.wrap (31 + (Int.tmod (i64.wrap ((Int.tmod w 3) + 3)) 3)))), (42, .bool (decide (((ae).length : Int) < (i64.wrap (31 + (Int.tmod (i64.wrap ((Int.tmod w 3) + 3)) 3))))))] (x_ek (c_nm [(1, Vi (Int.tmod (i64.wrap ((Int.tmod w 3) + 3)) 3)), (10, Vi Z), (13, Vl q ae aC), (42, .bool (decide (((ae).length : Int) < (i64.wrap (31 + (Int.tmod (i64.wrap ((Int.tmod w 3) + 3)) 3))))))] (fun J => ?_)))))))
   refine c_if (decide (((ae).length : Int) < (i64.wrap (31 + (Int.tmod (i64.wrap ((Int.tmod w 3) + 3)) 3))))) R b (fun b => ?_) (fun b => ?_)
   · refine c_skip (k_then (c_block (c_plain (x_u 1 [(43, Vl q ae aC)] (x_buildSlice (vs := [(0, Vi 500)]) #[Vi 500] 3 R R R (by kernel_rfl) (fun cS dn d7 c8 bQ e2 => ?_))))))
     refine inl1 ?_
     have aj := d
     have k := Stp.ext (ls := [blk q, a]) bQ
     replace S := S.step k bQ nn2
     replace d := d.ev bQ
     replace g := g.ext bQ
     have ep : SlR (eInt .i64) dn (fl [blk q, a]) (Ad cS 0) 1 ([500]) := ro_of_box aj d7 c8 R R (cells_at (cs := [Vi 500]) (CellsOf.cons (c := [Vi 500]) R CellsOf.nil))
     clear c8 aj
     have aX := guard_l b
     replace b := guard_r b
     obtain ⟨be, c1, cF, ee, ci, cu, eU, dh⟩ := own_appendN tel22 22 S (mem_flat 0 R) ep aX
     refine x_builtin (vs := [Vl q ae aC, .slice (Ad cS 0) ([500]).length 1]) _ cF R R R R (run_value _ _ _ _ ee) (inl1 ?_)
     have k : Stp (fl [blk q, a]) dn (fl [blk be, a]) cF := Stp.upd 0 ci R (fun s v => (cu s v).1)
     replace d : MS cF [blk be, a] := d.upd 0 ci R cu
     have Q : FR G.heap.size [blk be] := j.upd 0 R g.size (fun s v => (cu s v).1)
     replace g := g.then ci (fun s v => .inr (j.at 0 R s v))
     replace j := Q
     clear Q
     replace S := dh (fl [blk be, a]) k.new
     clear dh
     refine x_u 1 [(13, .slice be ((ae ++ [500])).length c1)] (x_end R (k_block ?_))
     obtain rfl := some_inj b
     exact k_then ⟨(bE, (ae ++ [500]), be, c1), ⟨R, R, R, trivial⟩, ⟨bx, g, d, j, S⟩, Nat.lt_succ_self _⟩
   refine c_exit (k_then_exit ?_)
   obtain rfl := some_inj b
   have aA := some_inj bx
   subst aA
   replace b := dE
   refine k_then_exit (k_block_in (k_then (c_nm [(10, Vi Z), (13, Vl q ae aC)] (fun J => ?_))))
   refine c_sp (x_buildSlice (vs := [(0, Vi 1), (1, Vi 3), (2, Vi 0), (3, Vi 2)]) #[Vi 1, Vi 3, Vi 0, Vi 2] 3 R R R (by kernel_rfl) (fun b7 dp d8 c9 bS e3 => ?_))
   refine inl1 ?_
   have aj := d
   have k := Stp.ext (ls := [blk q, a]) bS
   replace S := S.step k bS nn2
   replace d := d.ev bS
   replace g := g.ext bS
   have eq : SlR (eInt .i64) dp (fl [blk q, a]) (Ad b7 0) 4 ([1, 3, 0, 2]) := ro_of_box aj d8 c9 R R (cells_at (cs := [Vi 1, Vi 3, Vi 0, Vi 2]) (CellsOf.cons (c := [Vi 1]) R (CellsOf.cons (c := [Vi 3]) R (CellsOf.cons (c := [Vi 0]) R (CellsOf.cons (c := [Vi 2]) R CellsOf.nil)))))
   clear c9 aj
   obtain ⟨dr, B, b⟩ := bind_some b
   have O := law17_items_w (Ad b7 0) 4 ([1, 3, 0, 2]) _ dp (fl [blk q, a]) (MS.fold (P := []) d) (eq.sub fl1) B
   refine x_call 30 #[] #[] [.slice (Ad b7 0) ([1, 3, 0, 2]).length 4] _ R R R R O ?_
   rintro aH ez ⟨aL, cU, rfl, bU, dU, ck, bt⟩
   clear O B
   refine inl1 ?_
   have k := Stp.call0 [blk q, a] [blk aL] [blk aL, blk q, a] bU ck R
   replace S := S.step k bU nn2
   replace d := MS.call0 [blk aL] [blk aL, blk q, a] d bU dU ck R
   have Q := FR.call0 [blk aL, blk q] g.size ck j R
   replace g := g.ext bU
   replace j := Q
   clear Q
   replace bt := OwnS.plain (M' := fl [blk aL, blk q, a]) (plain_prod (plain_int _) (plain_prod (plain_int _) (plain_prod (plain_int _) (plain_int _)))) bt
   clear k
   have r := d.pick [some 1, some 2] [blk q, a] R
   have m := pick_sub (ls := [blk aL, blk q, a]) [some 1, some 2] [blk q, a] R
   replace S := S.sub m
   replace bt := bt.ro m (pick_out d 0 R [some 1, some 2] [blk q, a] R R)
   replace d := r
   replace j := j.pick [some 1] [blk q] R
   clear r m
   refine x_u 1 [(49, Vl q ae aC)] ?_
   obtain ⟨o, B, b⟩ := bind_some b
   have r := d.pick [some 1] ([] ++ [a]) R
   have ak := sub_fold (ls := [blk q, a]) [some 1] [a] R
   have O := planner_Plan_w aL cU dr q aC ae _ ez (fl [a]) (MS.fold (P := []) r) (bt.sub ak) (S.ro ak (pick_outf d 0 R [some 1] [a] R R)) B
   refine x_call 25 #[] #[] [Vl aL dr cU, Vl q ae aC] _ R R R R O ?_
   rintro aH fd ⟨an, aO, ac, aQ, N, aS, D, aU, C, bn, rfl, bX, dX, cl, aw, ax, ay, az, eL⟩
   clear O B
   refine inl1 ?_
   have k := Stp.call0 [blk q, a] [blk an, blk ac, blk N, blk D, blk C] [blk an, blk ac, blk N, blk D, blk C, blk q, a] bX cl R
   replace S := S.step k bX nn2
   replace d := MS.call0 [blk an, blk ac, blk N, blk D, blk C] [blk an, blk ac, blk N, blk D, blk C, blk q, a] d bX dX cl R
   have Q := FR.call0 [blk an, blk ac, blk N, blk D, blk C, blk q] g.size cl j R
   replace g := g.ext bX
   replace j := Q
   clear Q
   replace aw := OwnS.plain (M' := fl [blk an, blk ac, blk N, blk D, blk C, blk q, a]) (plain_prod (plain_int _) (plain_prod (plain_int _) (plain_prod (plain_int _) (plain_int _)))) aw
   replace ax := OwnS.plain (M' := fl [blk an, blk ac, blk N, blk D, blk C, blk q, a]) (plain_int _) ax
   replace ay := OwnS.plain (M' := fl [blk an, blk ac, blk N, blk D, blk C, blk q, a]) (plain_int _) ay
   replace az := OwnS.plain (M' := fl [blk an, blk ac, blk N, blk D, blk C, blk q, a]) (plain_int _) az
   clear r ak k
   have r := d.pick [some 1, some 2, some 3, some 4, some 5, some 6] [blk ac, blk N, blk D, blk C, blk q, a] R
   have m := pick_sub (ls := [blk an, blk ac, blk N, blk D, blk C, blk q, a]) [some 1, some 2, some 3, some 4, some 5, some 6] [blk ac, blk N, blk D, blk C, blk q, a] R
   replace S := S.sub m
   replace aw := aw.ro m (pick_out d 0 R [some 1, some 2, some 3, some 4, some 5, some 6] [blk ac, blk N, blk D, blk C, blk q, a] R R)
   replace ax := ax.sub m
   replace ay := ay.sub m
   replace az := az.sub m
   replace d := r
   replace j := j.pick [some 1, some 2, some 3, some 4, some 5] [blk ac, blk N, blk D, blk C, blk q] R
   clear r m
   have r := d.pick [some 1, some 2, some 3, some 4, some 5] [blk N, blk D, blk C, blk q, a] R
   have m := pick_sub (ls := [blk ac, blk N, blk D, blk C, blk q, a]) [some 1, some 2, some 3, some 4, some 5] [blk N, blk D, blk C, blk q, a] R
   replace S := S.sub m
   replace aw := aw.sub m
   replace ax := ax.ro m (pick_out d 0 R [some 1, some 2, some 3, some 4, some 5] [blk N, blk D, blk C, blk q, a] R R)
   replace ay := ay.sub m
   replace az := az.sub m
   replace d := r
   replace j := j.pick [some 1, some 2, some 3, some 4] [blk N, blk D, blk C, blk q] R
   clear r m
   have r := d.pick [some 1, some 2, some 3, some 4] [blk D, blk C, blk q, a] R
   have m := pick_sub (ls := [blk N, blk D, blk C, blk q, a]) [some 1, some 2, some 3, some 4] [blk D, blk C, blk q, a] R
   replace S := S.sub m
   replace aw := aw.sub m
   replace ax := ax.sub m
   replace ay := ay.ro m (pick_out d 0 R [some 1, some 2, some 3, some 4] [blk D, blk C, blk q, a] R R)
   replace az := az.sub m
   replace d := r
   replace j := j.pick [some 1, some 2, some 3] [blk D, blk C, blk q] R
   clear r m
   have r := d.pick [some 1, some 2, some 3] [blk C, blk q, a] R
   have m := pick_sub (ls := [blk D, blk C, blk q, a]) [some 1, some 2, some 3] [blk C, blk q, a] R
   replace S := S.sub m
   replace aw := aw.sub m
   replace ax := ax.sub m
   replace ay := ay.sub m
   replace az := az.ro m (pick_out d 0 R [some 1, some 2, some 3] [blk C, blk q, a] R R)
   replace d := r
   replace j := j.pick [some 1, some 2] [blk C, blk q] R
   clear r m
   have r := d.pick [some 1, some 2] [blk q, a] R
   have m := pick_sub (ls := [blk C, blk q, a]) [some 1, some 2] [blk q, a] R
   replace S := S.sub m
   replace aw := aw.sub m
   replace ax := ax.sub m
   replace ay := ay.sub m
   replace az := az.sub m
   replace d := r
   replace j := j.pick [some 1] [blk q] R
   clear r m
   refine x_u 4 [(46, .tuple #[.agg #[Vl an o.1.1.1 aO, Vi o.1.1.2, Vi o.1.2.1.1.1, Vl ac o.1.2.1.1.2 aQ, Vl N o.1.2.1.2 aS, Vl D o.1.2.2 aU], Vl C o.2.1 bn, Vi o.2.2]), (51, .agg #[Vl an o.1.1.1 aO, Vi o.1.1.2, Vi o.1.2.1.1.1, Vl ac o.1.2.1.1.2 aQ, Vl N o.1.2.1.2 aS, Vl D o.1.2.2 aU]), (52, Vl C o.2.1 bn), (53, Vi o.2.2)] (x_alloc (z := .agg #[.slice none 0 0, Vi 0, Vi 0, .slice none 0 0, .slice none 0 0, .slice none 0 0]) R R (by kernel_rfl) (fun aN eA cy bi bY e4 => ?_))
   replace bi : eA.heap[aN]? = some (.cells #[.slice none 0 0, Vi 0, Vi 0, .slice none 0 0, .slice none 0 0, .slice none 0 0] 67 (0, 0)) := bi
   refine inl1 ?_
   have k := Stp.box (ls := [blk q, a]) bY cy
   replace S := S.step k bY nn2
   replace aw := aw.step k
   replace ax := ax.step k
   replace ay := ay.step k
   replace az := az.step k
   replace d := d.box bY cy bi
   replace j := j.box g.size cy
   replace g := g.ext bY
   obtain ⟨cG, ef, dF, bZ⟩ := store_boxagg 0 [Vl an o.1.1.1 aO, Vi o.1.1.2, Vi o.1.2.1.1.1, Vl ac o.1.2.1.1.2 aQ, Vl N o.1.2.1.2 aS, Vl D o.1.2.2 aU] #[Vl an o.1.1.1 aO, Vi o.1.1.2, Vi o.1.2.1.1.1, Vl ac o.1.2.1.1.2 aQ, Vl N o.1.2.1.2 aS, Vl D o.1.2.2 aU] tagg67 bi R R R
   refine x_store cG (xv := Vp aN 0) (yv := .agg #[Vl an o.1.1.1 aO, Vi o.1.1.2, Vi o.1.2.1.1.1, Vl ac o.1.2.1.1.2 aQ, Vl N o.1.2.1.2 aS, Vl D o.1.2.2 aU]) R R R R ef (inl1 ?_)
   have k := Stp.ev' (ls := [[aN], blk q, a]) bZ (mem_flat 0 R)
   replace S := S.step k bZ (d.apart 1 0 R R R)
   replace aw := aw.step k
   replace ax := ax.step k
   replace ay := ay.step k
   replace az := az.step k
   replace d := d.ev bZ
   replace g := g.then bZ (fun s v => .inr (j.at 0 R s v))
   replace bi := dF
   refine x_u 2 [(15, Vl C o.2.1 bn), (16, Vi o.2.2)] (x_ek (c_sp (x_u 4 [(54, Vi o.2.2), (55, Vi Z), (56, .bool (o.2.2 == Z)), (57, .bool (o.2.2 == Z))] (x_if 57 (o.2.2 == Z) R b (fun b => ?_) (fun b => ?_)))))
   · refine x_u 1 [(58, Vl C o.2.1 bn)] (x_len (vs := [Vl C o.2.1 bn]) (Vi ((o.2.1).length : Int)) R R R (reads_len tsl22 _ _ _ _ _) (x_u 3 [(60, .bool (((o.2.1).length : Int) == 0)), (61, .bool (((o.2.1).length : Int) == 0)), (62, .bool (((o.2.1).length : Int) == 0))] (x_if 62 (((o.2.1).length : Int) == 0) R b (fun b => ?_) (fun b => ?_))))
     · refine x_u 3 [(63, Vi o.2.2), (64, .bool (o.2.2 != 0)), (65, .bool (o.2.2 != 0))] (x_if 65 (o.2.2 != 0) R b (fun b => ?_) (fun b => ?_))
       · refine x_u 7 [(66, undef), (67, undef), (68, undef), (69, undef), (70, .bool true), (71, .bool true), (72, .bool true)] ?_
         obtain ⟨b5, B, b⟩ := bind_some b
         have O := law17_sane_w _ cG B
         refine x_call 18 #[] #[] [] _ R R R R O ?_
         rintro aH fe ⟨rfl, dL⟩
         clear O B
         refine inl1 ?_
         replace g := g.ext dL
         refine x_u 2 [(74, .bool b5), (6, .bool b5)] (x_ek (c_nm [(6, .bool b5)] (fun J => ?_)))
         refine c_ret (k_block_ret (k_then_ret (r_ret (r_vals [.bool b5] ⟨R, trivial⟩ ?_))))
         obtain rfl := some_inj b
         exact ⟨R, g⟩
       refine x_load (xv := Vp aN 0) (.agg #[Vl an o.1.1.1 aO, Vi o.1.1.2, Vi o.1.2.1.1.1, Vl ac o.1.2.1.1.2 aQ, Vl N o.1.2.1.2 aS, Vl D o.1.2.2 aU]) R R R (reads_boxagg 0 [Vl an o.1.1.1 aO, Vi o.1.1.2, Vi o.1.2.1.1.1, Vl ac o.1.2.1.1.2 aQ, Vl N o.1.2.1.2 aS, Vl D o.1.2.2 aU] tagg67 bi nn R) (x_u 1 [(67, Vl q ae aC)] ?_)
       obtain ⟨bH, B, b⟩ := bind_some b
       have r := d.pick [some 0, some 2] ([] ++ [[aN], a]) R
       have ak := sub_fold (ls := [[aN], blk q, a]) [some 0, some 2] [[aN], a] R
       have O := planner_Check_w an aO o.1.1.1 o.1.1.2 o.1.2.1.1.1 ac aQ o.1.2.1.1.2 N aS o.1.2.1.2 D aU o.1.2.2 q aC ae _ cG (fl [[aN], a]) (MS.fold (P := []) r) (aw.sub ak) (ax.sub ak) (ay.sub ak) (az.sub ak) (S.ro ak (pick_outf d 1 R [some 0, some 2] [[aN], a] R R)) B
       refine x_call 31 #[] #[] [.agg #[Vl an o.1.1.1 aO, Vi o.1.1.2, Vi o.1.2.1.1.1, Vl ac o.1.2.1.1.2 aQ, Vl N o.1.2.1.2 aS, Vl D o.1.2.2 aU], Vl q ae aC] _ R R R R O ?_
       rintro aH eB ⟨rfl, dN⟩
       clear O B
       refine inl1 ?_
       replace g := g.ext dN
       clear r ak
       refine x_u 4 [(69, .bool (bH == 0)), (70, .bool (bH == 0)), (71, .bool (bH == 0)), (72, .bool (bH == 0))] (x_if 72 (bH == 0) R b (fun b => ?_) (fun b => ?_))
       · obtain ⟨b6, B, b⟩ := bind_some b
         have O := law17_sane_w _ eB B
         refine x_call 18 #[] #[] [] _ R R R R O ?_
         rintro aH ff ⟨rfl, dO⟩
         clear O B
         refine inl1 ?_
         replace g := g.ext dO
         refine x_u 2 [(74, .bool b6), (6, .bool b6)] (x_ek (c_nm [(6, .bool b6)] (fun J => ?_)))
         refine c_ret (k_block_ret (k_then_ret (r_ret (r_vals [.bool b6] ⟨R, trivial⟩ ?_))))
         obtain rfl := some_inj b
         exact ⟨R, g⟩
       refine x_u 3 [(73, undef), (74, .bool false), (6, .bool false)] (x_ek (c_nm [(6, .bool false)] (fun J => ?_)))
       refine c_ret (k_block_ret (k_then_ret (r_ret (r_vals [.bool false] ⟨R, trivial⟩ ?_))))
       obtain rfl := some_inj b
       exact ⟨R, g⟩
     refine x_u 13 [(63, undef), (64, undef), (65, undef), (66, undef), (67, undef), (68, undef), (69, undef), (70, undef), (71, .bool false), (72, .bool false), (73, undef), (74, .bool false), (6, .bool false)] (x_ek (c_nm [(6, .bool false)] (fun J => ?_)))
     refine c_ret (k_block_ret (k_then_ret (r_ret (r_vals [.bool false] ⟨R, trivial⟩ ?_))))
     obtain rfl := some_inj b
     exact ⟨R, g⟩
   refine x_u 18 [(58, undef), (59, undef), (60, undef), (61, .bool false), (62, .bool false), (63, undef), (64, undef), (65, undef), (66, undef), (67, undef), (68, undef), (69, undef), (70, undef), (71, .bool false), (72, .bool false), (73, undef), (74, .bool false), (6, .bool false)] (x_ek (c_nm [(6, .bool false)] (fun J => ?_)))
   refine c_ret (k_block_ret (k_then_ret (r_ret (r_vals [.bool false] ⟨R, trivial⟩ ?_))))
   obtain rfl := some_inj b
   exact ⟨R, g⟩
 rintro ⟨E, Y, aa, ab, t, ad⟩ J eE ⟨b, g, d, j, ai, p⟩
 refine c_sp (x_u 2 [(116, Vl t Y ad), (117, Vl aa E ab)] ?_)
 obtain ⟨u, B, b⟩ := bind_some b
 have r := d.pick [some 1] ([] ++ [a]) R
 have ak := sub_fold (ls := [blk t, a]) [some 1] [a] R
 have O := planner_Items_w t ad Y aa ab E _ eE (fl [a]) (MS.fold (P := []) r) (p.ro ak (pick_outf d 0 R [some 1] [a] R R)) (ai.sub ak) B
 refine x_call 15 #[] #[] [Vl t Y ad, Vl aa E ab] _ R R R R O ?_
 rintro aH fg ⟨L, ag, rfl, b0, dY, cm, ap⟩
 clear O B
 refine inl1 ?_
 have k := Stp.call0 [blk t, a] [blk L] [blk L, blk t, a] b0 cm R
 replace ai := ai.step k
 replace p := p.step k b0 nn2
 replace d := MS.call0 [blk L] [blk L, blk t, a] d b0 dY cm R
 have Q := FR.call0 [blk L, blk t] g.size cm j R
 replace g := g.ext b0
 replace j := Q
 clear Q
 replace ap := OwnS.plain (M' := fl [blk L, blk t, a]) (plain_prod (plain_int _) (plain_prod (plain_int _) (plain_prod (plain_int _) (plain_int _)))) ap
 clear r ak k
 have r := d.pick [some 1, some 2] [blk t, a] R
 have m := pick_sub (ls := [blk L, blk t, a]) [some 1, some 2] [blk t, a] R
 replace ai := ai.sub m
 replace p := p.sub m
 replace ap := ap.ro m (pick_out d 0 R [some 1, some 2] [blk t, a] R R)
 replace d := r
 replace j := j.pick [some 1] [blk t] R
 clear r m
 refine x_u 5 [(115, .tuple #[Vl L u.1 ag, Vi u.2]), (119, Vl L u.1 ag), (120, Vi u.2), (17, Vl L u.1 ag), (18, Vi u.2)] (x_ek (c_nm [(8, Vl aa E ab), (9, Vl t Y ad), (10, Vi Z), (17, Vl L u.1 ag), (18, Vi u.2)] (fun J => ?_)))
 refine c_join (σ := Unit) (fun A => match A with | _ => [(8, Vl aa E ab), (9, Vl t Y ad), (17, Vl L u.1 ag)]) (fun A x => match A with | _ => law17_PlannerLimits_J69 E Y u = some bG ∧ Ev [] G x ∧ MS x [blk t, a] ∧ FR G.heap.size [blk t] ∧ SlR (eProd eStr (eProd (eInt .i64) (eProd (eInt .i64) (eProd (eInt .i64) (eProd (eInt .i64) (eProd (eInt .i64) (eProd eBool eStr))))))) x (fl [blk t, a]) aa ab E ∧ OwnS (eSl eStr) 31 x (fl [blk t, a]) t ad Y ∧ SlR (eIt4) x (fl [blk t, a]) L ag u.1) ?_ ?_
 · refine c_sp (x_u 4 [(121, Vi u.2), (122, Vi Z), (123, .bool (u.2 != Z)), (124, .bool (u.2 != Z))] (x_if 124 (u.2 != Z) R b (fun b => ?_) (fun b => ?_)))
   · refine x_u 10 [(125, undef), (126, undef), (127, undef), (128, undef), (129, undef), (130, undef), (131, undef), (132, undef), (133, undef), (134, .bool true)] (x_ek (c_nm [(8, Vl aa E ab), (9, Vl t Y ad), (17, Vl L u.1 ag), (134, .bool true)] (fun J => ?_)))
     refine c_true R (c_sp (x_u 1 [(6, .bool false)] (x_ek (c_ret (k_then_ret (r_ret (r_vals [.bool false] ⟨R, trivial⟩ ?_)))))))
     obtain rfl := some_inj b
     exact ⟨R, g⟩
   refine x_u 3 [(125, Vi u.2), (126, .bool (u.2 == 0)), (127, .bool (u.2 == 0))] (x_if 127 (u.2 == 0) R b (fun b => ?_) (fun b => ?_))
   · refine x_u 1 [(128, Vl L u.1 ag)] (x_len (vs := [Vl L u.1 ag]) (Vi ((u.1).length : Int)) R R R (reads_len tsl36 _ _ _ _ _) (x_u 1 [(130, Vl aa E ab)] (x_len (vs := [Vl aa E ab]) (Vi ((E).length : Int)) R R R (reads_len tsl24 _ _ _ _ _) (x_u 3 [(132, .bool (((u.1).length : Int) != ((E).length : Int))), (133, .bool (((u.1).length : Int) != ((E).length : Int))), (134, .bool (((u.1).length : Int) != ((E).length : Int)))] (x_ek (c_nm [(8, Vl aa E ab), (9, Vl t Y ad), (17, Vl L u.1 ag), (134, .bool (((u.1).length : Int) != ((E).length : Int)))] (fun J => ?_)))))))
     refine c_if (((u.1).length : Int) != ((E).length : Int)) R b (fun b => ?_) (fun b => ?_)
     · refine c_sp (x_u 1 [(6, .bool false)] (x_ek (c_ret (k_then_ret (r_ret (r_vals [.bool false] ⟨R, trivial⟩ ?_))))))
       obtain rfl := some_inj b
       exact ⟨R, g⟩
     refine c_skip ?_
     exact k_then ⟨(), ⟨R, R, R, trivial⟩, b, g, d, j, ai, p, ap⟩
   refine x_u 7 [(128, undef), (129, undef), (130, undef), (131, undef), (132, undef), (133, .bool false), (134, .bool false)] (x_ek (c_nm [(8, Vl aa E ab), (9, Vl t Y ad), (17, Vl L u.1 ag), (134, .bool false)] (fun J => ?_)))
   refine c_false R (c_skip ?_)
   exact k_then ⟨(), ⟨R, R, R, trivial⟩, b, g, d, j, ai, p, ap⟩
 rintro _ J fi ⟨b, g, d, j, ai, p, ap⟩
 refine c_seq (c_sp (x_u 1 [(135, Vl L u.1 ag)] (x_len (vs := [Vl L u.1 ag]) (Vi ((u.1).length : Int)) R R R (reads_len tsl36 _ _ _ _ _) (x_u 1 [(137, Vi 0)] (x_ek (c_nm [(8, Vl aa E ab), (9, Vl t Y ad), (135, Vl L u.1 ag), (136, Vi ((u.1).length : Int)), (137, Vi 0)] (fun J => ?_)))))))
 refine c_block ?_
 obtain ⟨dA, cf, bp⟩ := bind_some b
 obtain ⟨bF, cf⟩ := loop_some cf
 refine c_loop (loop_rule hmx (σ := Nat × Int) (fun A => match A with | (_, am) => [(8, Vl aa E ab), (9, Vl t Y ad), (135, Vl L u.1 ag), (136, Vi ((u.1).length : Int)), (137, Vi am)]) (fun A x => match A with | (a0, am) => loopN (law17_PlannerLimits_L70 E Y u) a0 am = some dA ∧ Ev [] G x ∧ MS x [blk t, a] ∧ FR G.heap.size [blk t] ∧ SlR (eProd eStr (eProd (eInt .i64) (eProd (eInt .i64) (eProd (eInt .i64) (eProd (eInt .i64) (eProd (eInt .i64) (eProd eBool eStr))))))) x (fl [blk t, a]) aa ab E ∧ OwnS (eSl eStr) 31 x (fl [blk t, a]) t ad Y ∧ SlR (eIt4) x (fl [blk t, a]) L ag u.1) (fun A => A.1) (bF, 0) ⟨R, R, R, R, R, trivial⟩ ⟨cf, g, d, j, ai, p, ap⟩ ?_)
 rintro ⟨bF, am⟩ J eF ⟨aY, g, d, j, ai, p, ap⟩
 rcases bF with _ | bF
 · exact (loopN_zero aY).elim
 obtain ⟨fb, b, aY⟩ := bind_some aY
 refine c_sp (x_u 1 [(138, .bool (decide (am < ((u.1).length : Int))))] (x_ek (c_nm [(8, Vl aa E ab), (9, Vl t Y ad), (135, Vl L u.1 ag), (136, Vi ((u.1).length : Int)), (137, Vi am), (138, .bool (decide (am < ((u.1).length : Int))))] (fun J => ?_))))
 refine c_seq (c_if (decide (am < ((u.1).length : Int))) R b (fun b => ?_) (fun b => ?_))
 · refine c_skip (k_then (c_seq (c_block (c_sp (x_u 1 [(139, Vi am)] ?_)))))
   obtain ⟨I, eu, b⟩ := bind_some b
   obtain ⟨cJ, eG, eg, dH, a5⟩ := reads_index (Mo := []) tsl36 ap eu
   obtain ⟨_, _, rfl, rfl, ⟨_, _, rfl, rfl, ⟨_, _, rfl, rfl, rfl⟩⟩⟩ := a5
   refine x_indexAddr (xv := Vl L u.1 ag) (yv := Vi am) (.pointer (some cJ)) R R R R eg (x_load (xv := .pointer (some cJ)) (.agg #[Vi I.1, Vi I.2.1, Vi I.2.2.1, Vi I.2.2.2]) R R R (reads_agg tagg76 dH (fun _ b => by cases b)) ?_)
   refine x_alloc (z := .agg #[Vi 0, Vi 0, Vi 0, Vi 0]) R R (by kernel_rfl) (fun au eD cz aG b1 e5 => ?_)
   replace aG : eD.heap[au]? = some (.cells #[Vi 0, Vi 0, Vi 0, Vi 0] 76 (0, 0)) := aG
   refine inl1 ?_
   have k := Stp.box (ls := [blk t, a]) b1 cz
   replace ai := ai.step k
   replace p := p.step k b1 nn2
   replace ap := ap.step k
   replace d := d.box b1 cz aG
   replace j := j.box g.size cz
   replace g := g.ext b1
   refine x_u 1 [(19, Vi am)] ?_
   obtain ⟨a8, eh, dG, b2⟩ := store_boxagg 0 [Vi I.1, Vi I.2.1, Vi I.2.2.1, Vi I.2.2.2] #[Vi I.1, Vi I.2.1, Vi I.2.2.1, Vi I.2.2.2] tagg76 aG R R R
   refine x_store a8 (xv := Vp au 0) (yv := .agg #[Vi I.1, Vi I.2.1, Vi I.2.2.1, Vi I.2.2.2]) R R R R eh (inl1 ?_)
   have k := Stp.ev' (ls := [[au], blk t, a]) b2 (mem_flat 0 R)
   replace ai := ai.step k
   replace p := p.step k b2 (d.apart 1 0 R R R)
   replace ap := ap.step k
   replace d := d.ev b2
   replace g := g.then b2 (fun s v => .inr (j.at 0 R s v))
   replace aG := dG
   refine x_ek (c_seq (c_drawn [] [(0, false), (1, false), (2, false), (3, false), (4, false), (5, false), (6, false), (7, false), (8, false), (9, false), (10, false), (11, false), (12, false), (13, false), (14, false), (15, false), (16, false), (17, false), (18, false), (19, false), (20, false), (21, false), (22, false), (23, false), (24, false), (25, false), (26, false), (27, false), (28, false)] _ (by kernel_rfl) R ?_))
   have k := Stp.ext (ls := [[au], blk t, a]) (Ev.drew a8)
   replace ai := ai.step k
   replace p := p.step k (Ev.drew a8) nn2
   replace ap := ap.step k
   replace aG := (Ev.drew a8).box aG nn
   replace d := d.ev (Ev.drew a8)
   replace g := g.ext (Ev.drew a8)
   refine x_fieldAddr (xv := Vp au 0) (Vp au 0) R R R (reads_field tfld76_0 _ _) (x_load (xv := Vp au 0) (Vi I.1) R R R (reads_box tcell3 aG nn 0 _ R) (x_u 2 [(144, .bool (I.1 != 0)), (145, .bool (I.1 != 0))] (x_if 145 (I.1 != 0) R b (fun b => ?_) (fun b => ?_))))
   · refine x_u 25 [(146, undef), (147, undef), (148, undef), (149, .bool true), (150, .bool true), (151, undef), (152, undef), (153, undef), (154, .bool true), (155, .bool true), (156, undef), (157, undef), (158, undef), (159, undef), (160, undef), (161, undef), (162, undef), (163, undef), (164, undef), (165, undef), (166, undef), (167, undef), (168, undef), (169, undef), (170, .bool true)] (x_ek (c_nm [(8, Vl aa E ab), (9, Vl t Y ad), (135, Vl L u.1 ag), (136, Vi ((u.1).length : Int)), (137, Vi am), (170, .bool true)] (fun J => ?_)))
     refine c_true R (c_sp (x_u 1 [(6, .bool false)] (x_ek (c_ret (k_block_ret (k_then_ret ?_))))))
     obtain rfl := some_inj b
     have aA := some_inj aY
     subst aA
     replace b := bp
     refine k_then_ret (k_block_ret (k_then_ret (r_ret (r_vals [.bool false] ⟨R, trivial⟩ ?_))))
     obtain rfl := some_inj b
     exact ⟨R, g⟩
   refine x_fieldAddr (xv := Vp au 0) (Vp au 1) R R R (reads_field tfld76_1 _ _) (x_load (xv := Vp au 1) (Vi I.2.1) R R R (reads_box tcell3 aG nn 1 _ R) (x_u 3 [(148, .bool (decide (I.2.1 < 0))), (149, .bool (decide (I.2.1 < 0))), (150, .bool (decide (I.2.1 < 0)))] (x_if 150 (decide (I.2.1 < 0)) R b (fun b => ?_) (fun b => ?_))))
   · refine x_u 20 [(151, undef), (152, undef), (153, undef), (154, .bool true), (155, .bool true), (156, undef), (157, undef), (158, undef), (159, undef), (160, undef), (161, undef), (162, undef), (163, undef), (164, undef), (165, undef), (166, undef), (167, undef), (168, undef), (169, undef), (170, .bool true)] (x_ek (c_nm [(8, Vl aa E ab), (9, Vl t Y ad), (135, Vl L u.1 ag), (136, Vi ((u.1).length : Int)), (137, Vi am), (170, .bool true)] (fun J => ?_)))
     refine c_true R (c_sp (x_u 1 [(6, .bool false)] (x_ek (c_ret (k_block_ret (k_then_ret ?_))))))
     obtain rfl := some_inj b
     have aA := some_inj aY
     subst aA
     replace b := bp
     refine k_then_ret (k_block_ret (k_then_ret (r_ret (r_vals [.bool false] ⟨R, trivial⟩ ?_))))
     obtain rfl := some_inj b
     exact ⟨R, g⟩
   refine x_fieldAddr (xv := Vp au 0) (Vp au 1) R R R (reads_field tfld76_1 _ _) (x_load (xv := Vp au 1) (Vi I.2.1) R R R (reads_box tcell3 aG nn 1 _ R) (x_u 3 [(153, .bool (decide (I.2.1 > 9))), (154, .bool (decide (I.2.1 > 9))), (155, .bool (decide (I.2.1 > 9)))] (x_if 155 (decide (I.2.1 > 9)) R b (fun b => ?_) (fun b => ?_))))
   · refine x_u 15 [(156, undef), (157, undef), (158, undef), (159, undef), (160, undef), (161, undef), (162, undef), (163, undef), (164, undef), (165, undef), (166, undef), (167, undef), (168, undef), (169, undef), (170, .bool true)] (x_ek (c_nm [(8, Vl aa E ab), (9, Vl t Y ad), (135, Vl L u.1 ag), (136, Vi ((u.1).length : Int)), (137, Vi am), (170, .bool true)] (fun J => ?_)))
     refine c_true R (c_sp (x_u 1 [(6, .bool false)] (x_ek (c_ret (k_block_ret (k_then_ret ?_))))))
     obtain rfl := some_inj b
     have aA := some_inj aY
     subst aA
     replace b := bp
     refine k_then_ret (k_block_ret (k_then_ret (r_ret (r_vals [.bool false] ⟨R, trivial⟩ ?_))))
     obtain rfl := some_inj b
     exact ⟨R, g⟩
   refine x_u 1 [(156, Vl t Y ad)] ?_
   obtain ⟨ds, ew, b⟩ := bind_some b
   obtain ⟨bJ, eH, eK, ei, dI, a5⟩ := own_index (Mo := []) tsl23 p ew
   obtain ⟨cI, c2, rfl, er⟩ := a5
   refine x_indexAddr (xv := Vl t Y ad) (yv := Vi 0) (.pointer (some ⟨bJ, (Int.toNat 0) * (eSl eStr).n, none⟩)) R R R R ei (x_fieldAddr (xv := .pointer (some ⟨bJ, (Int.toNat 0) * (eSl eStr).n, none⟩)) (.pointer (some ⟨bJ, (Int.toNat 0) * (eSl eStr).n, none⟩)) R R R (reads_field tfld31_0 _ _) (x_load (xv := .pointer (some ⟨bJ, (Int.toNat 0) * (eSl eStr).n, none⟩)) (Vl cI ds c2) R R R (reads_cell0 tcell29 dI (fun _ b => by cases b)) ?_))
   refine x_fieldAddr (xv := Vp au 0) (Vp au 1) R R R (reads_field tfld76_1 _ _) (x_load (xv := Vp au 1) (Vi I.2.1) R R R (reads_box tcell3 aG nn 1 _ R) ?_)
   obtain ⟨bl, ex, b⟩ := bind_some b
   obtain ⟨cK, eI, ej, dJ, a5⟩ := reads_index (Mo := []) tsl29 er ex
   obtain rfl := a5
   refine x_indexAddr (xv := Vl cI ds c2) (yv := Vi I.2.1) (.pointer (some cK)) R R R R ej (x_load (xv := .pointer (some cK)) (Vs bl) R R R (reads_cell0 tcell9 dJ (fun _ b => by cases b)) ?_)
   refine x_u 2 [(164, Vl aa E ab), (165, Vi am)] ?_
   obtain ⟨bm, ey, b⟩ := bind_some b
   obtain ⟨bI, eJ, ek, dK, a5⟩ := reads_index (Mo := []) tsl24 ai ey
   obtain ⟨_, _, rfl, rfl, ⟨_, _, rfl, rfl, ⟨_, _, rfl, rfl, ⟨_, _, rfl, rfl, ⟨_, _, rfl, rfl, ⟨_, _, rfl, rfl, ⟨_, _, rfl, rfl, rfl⟩⟩⟩⟩⟩⟩⟩ := a5
   refine x_indexAddr (xv := Vl aa E ab) (yv := Vi am) (.pointer (some bI)) R R R R ek (x_fieldAddr (xv := .pointer (some bI)) (.pointer (some (Addr.add bI 7))) R R R (reads_field tfld34_7 _ _) (x_load (xv := .pointer (some (Addr.add bI 7))) (Vs bm.2.2.2.2.2.2.2) R R R (reads_cell tcell9 dK (fun _ b => by cases b) 7 _ R) ?_))
   refine x_binop (.bool (bl != bm.2.2.2.2.2.2.2)) (Vs bl) (Vs bm.2.2.2.2.2.2.2) R R R R (bin_sne) (x_u 1 [(170, .bool (bl != bm.2.2.2.2.2.2.2))] (x_ek (c_nm [(8, Vl aa E ab), (9, Vl t Y ad), (135, Vl L u.1 ag), (136, Vi ((u.1).length : Int)), (137, Vi am), (170, .bool (bl != bm.2.2.2.2.2.2.2))] (fun J => ?_))))
   refine c_if (bl != bm.2.2.2.2.2.2.2) R b (fun b => ?_) (fun b => ?_)
   · refine c_sp (x_u 1 [(6, .bool false)] (x_ek (c_ret (k_block_ret (k_then_ret ?_)))))
     obtain rfl := some_inj b
     have aA := some_inj aY
     subst aA
     replace b := bp
     refine k_then_ret (k_block_ret (k_then_ret (r_ret (r_vals [.bool false] ⟨R, trivial⟩ ?_))))
     obtain rfl := some_inj b
     exact ⟨R, g⟩
   refine c_skip (k_block (k_then (c_plain (x_u 2 [(171, Vi (i64.wrap (am + 1))), (137, Vi (i64.wrap (am + 1)))] (x_end R ?_)))))
   obtain rfl := some_inj b
   have r : MS (a8).drew [blk t, a] := d.pick [some 1, some 2] _ R
   have m := pick_sub (ls := [[au], blk t, a]) [some 1, some 2] [blk t, a] R
   replace ai := ai.sub m
   replace p := p.sub m
   replace ap := ap.sub m
   replace d := r
   replace j := j.pick [some 1] [blk t] R
   clear r m
   exact k_then ⟨(bF, i64.wrap (am + 1)), ⟨R, R, R, R, R, trivial⟩, ⟨aY, g, d, j, ai, p, ap⟩, Nat.lt_succ_self _⟩
 refine c_exit (k_then_exit ?_)
 obtain rfl := some_inj b
 have aA := some_inj aY
 subst aA
 replace b := bp
 refine k_then_exit (k_block_in (k_then (c_norm [] trivial (fun J => ?_))))
 refine c_sp ?_
 obtain ⟨dt, B, b⟩ := bind_some b
 have O := law17_sane_w _ eF B
 refine x_call 18 #[] #[] [] _ R R R R O ?_
 rintro aH fh ⟨rfl, dQ⟩
 clear O B
 refine inl1 ?_
 replace g := g.ext dQ
 refine x_u 1 [(6, .bool dt)] (x_ek (c_ret (r_ret (r_vals [.bool dt] ⟨R, trivial⟩ ?_))))
 obtain rfl := some_inj b
 exact ⟨R, g⟩
end Go.Proofs.YtlejnkhaphlooaaGreat
