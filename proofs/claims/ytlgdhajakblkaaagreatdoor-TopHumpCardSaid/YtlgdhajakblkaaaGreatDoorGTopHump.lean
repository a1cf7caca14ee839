
/- Walks, printed by program: each function returns what the partial function of the same name returns. Conditions: those of each theorem. -/
import Derived.Test.YtlgdhajakblkaaaGreatDoorGT
import Derived.Test.YtlgdhajakblkaaaGreatDoorGgen
import Derived.Test.YtlgdhajakblkaaaGreatDoorGlayout
import Derived.Test.YtlgdhajakblkaaaGreatDoorGresistance
import Derived.Test.YtlgdhajakblkaaaGreatDoorGrunoff
import Derived.Test.YtlgdhajakblkaaaGreatDoorGtopawake
import Derived.Test.YtlgdhajakblkaaaGreatDoorGtree
set_option linter.unusedVariables false
set_option linter.unusedSimpArgs false
set_option maxRecDepth 4000
namespace Go.Proofs.YtlgdhajakblkaaaGreatDoor
open Go Go.V Go.Proofs Go.IntKind
def top_TopHump_L67 (f : (List ((Int × Int) × (Int × Int) × Bool × Bool)) × Int) (c : (List (Int × Int)) × Int × Int) (e : Int) : Option (Step Int (Unit ⊕ Unit)) :=
match e with
| b =>
(if (decide (b < ((c.1).length : Int))) = true then
((idx c.1 b).bind fun d =>
((idx f.1 b).bind fun a =>
((runoff_In d.1 d.2 a.1.1 a.1.2 a.2.1.1 a.2.1.2 a.2.2.1 a.2.2.2).bind fun g =>
(if (!g) = true then
some (.done (.inl ()))
else
some (.next (i64.wrap (b + 1)))))))
else
some (.done (.inr ())))
def top_TopHump_L57 (i : ((List Int) × Int)) (j : (List (Int × Int × Int × Int × Int)) × Int) (k : (List (Int × Int)) × Int) (a : ((Int × Int) × (List (Int × Int)) × Int × (List Int)) × Int) (e : (List ((Int × Int) × (Int × Int) × Bool × Bool)) × Int) (h : Int × Int) : Option (Step (Int × Int) (Unit ⊕ Unit)) :=
match h with
| (g, d) =>
(if (decide (d < 3)) = true then
((gen_Maker_Run i.1 g a.1.1.1 a.1.1.2 k.1 a.1.2.2.1 a.1.2.2.2).bind fun b =>
((runoff_Point j.1 b.1.1 b.1.2.1 b.1.2.2).bind fun c =>
(if (c.2.2 != 0) = true then
some (.done (.inl ()))
else
(if (decide (((c.1).length : Int) > ((e.1).length : Int))) = true then
some (.done (.inl ()))
else
((loop (top_TopHump_L67 e c) 0).bind fun f => match f with
| (.inl _) => some (.done (.inl ()))
| (.inr _) => some (.next (b.2, i64.wrap (d + 1))))))))
else
some (.done (.inr ())))
def top_TopHump (q : List Int) : Option Bool :=
((gen_New q).bind fun a =>
((gen_Maker_Layout a.1 a.2 5).bind fun n =>
((layout_Format n.1).bind fun o =>
((layout_Parse o.1).bind fun g =>
((tree_Tracks g.1).bind fun e =>
(if (o.2 != 0) = true then
some false
else
(if (g.2.2 != 0) = true then
some false
else
(if (e.2 != 0) = true then
some false
else
(if (((e.1).length : Int) == 0) = true then
some false
else
((gen_Maker_Next a.1 n.2 ((e.1).length : Int)).bind fun j =>
((idx e.1 j.1).bind fun r =>
((runoff_Path g.1 r).bind fun b =>
((gen_Maker_Table a.1 j.2).bind fun k =>
((gen_Maker_From a.1 k.2 100 900).bind fun l =>
((gen_Maker_Pick a.1 l.2 ([2, 4, 6])).bind fun m =>
((gen_Maker_Weather a.1 m.2).bind fun d =>
((resistance_Class k.1 l.1 m.1 d.1.1.1 d.1.1.2 d.1.2.1 d.1.2.2).bind fun h =>
((resistance_Spread h.1.1 h.1.2 b.1).bind fun f =>
(if (b.2 != 0) = true then
some false
else
(if (h.2 != 0) = true then
some false
else
(if (f.2 != 0) = true then
some false
else
(if (((f.1).length : Int) != ((b.1).length : Int)) = true then
some false
else
((gen_Maker_Motion a.1 d.2 b.1).bind fun c =>
((runoff_Pass b.1 c.1.1.1 c.1.1.2 f.1 c.1.2.2.1 c.1.2.2.2).bind fun i =>
(if (i.2 != 0) = true then
some false
else
(if (((i.1).length : Int) != (i64.wrap (((b.1).length : Int) + 1))) = true then
some false
else
((loop (top_TopHump_L57 a b f c i) (c.2, 0)).bind fun p => match p with
| (.inl _) => some false
| (.inr _) => ((top_awake).bind fun s =>
some s))))))))))))))))))))))))))))
theorem top_TopHump_w (aO aQ aK bE K n) (hgl : GL Tryz.prog 1 K) (a : MS K [n]) (cA : SlR eI K (fl [n]) aO aQ aK) (d : top_TopHump aK = some bE) : CallVC Tryz.prog 3 [Vl aO aK aQ] K fun J H => J = .bool bE ∧ Ev [] K H := by
 refine Cw hmx Tryz.func3 R R R ?_
 have h := Ev.refl [] K
 have i := FR.nil K.heap.size
 refine Cs (Xu 1 [(2, .bool false)] (Xk (Cs (Xu 1 [(25, Vl aO aK aQ)] ?_))))
 obtain ⟨ae, v, d⟩ := Bs d
 obtain ⟨o, u⟩ := Kc a [] [0]
 have w := gen_New_w aO aQ aK _ K _ o (cA.sub u) v
 refine Xv w R ?_
 rintro J cN ⟨f, aj, ak, rfl, bd, cg, bt, p, g⟩
 have cB : ∀ aF ∈ fl [[f], n], aF ∈ fl ([[f]] ++ ([] ++ [n])) := Pk [0, 1] _ R
 have a := E1 (Cx.c a [] bd cg bt) a
 have I := i.cc h bt
 have h := h.ext bd
 have i := I
 have cC : ∀ aF ∈ fl [[f], n], aF ∈ fl ([[f]] ++ ([] ++ [(fl [n])])) := fun aF v => fl_tot (res := [[f]]) (par := []) (R := [n]) aF (cB aF v)
 have g := g.sub cC
 refine Xu 1 [(3, Vp f 0)] (Xk (Cs (Xu 1 [(28, Vp f 0)] ?_)))
 obtain ⟨bK, v, d⟩ := Bs d
 obtain ⟨o, u⟩ := Kc a [0] [1]
 have w := gen_Maker_Layout_w f aj ak ae.1 ae.2 5 _ cN _ o (g.sub u) p v
 refine Xv w R ?_
 rintro J c1 ⟨a5, bU, rfl, bo, cu, cm, bA, aH⟩
 obtain ⟨g, a⟩ := E2 (Cx.c a [0] bo cm bA) g a
 have ab : ∀ z ∈ fl [[f]], K.heap.size ≤ z := FR.mem (ls := [[f]]) (i.pk [0] _ R)
 have I := i.cc h bA
 have h := h.then bo (fun z ac => .inr (ab z ac))
 have i := I
 have p := cu
 have aH := aH.pl a
 have o := a.pk [1, 2] [[f], n] R
 have m := Pk (ls := [Bk a5, [f], n]) [1, 2] [[f], n] R
 have g := g.sub m
 have aH := aH.ro m (pick_out a 0 R [some 1, some 2] [[f], n] R R)
 have a := o
 have i := i.px [1]
 obtain ⟨ao, v, d⟩ := Bs d
 obtain ⟨o, u⟩ := Kc a [] [0, 1]
 have w := layout_Format_w a5 bU bK.1 _ c1 (fl [[f], n]) (hgl.ev h) o (aH.sub u) v
 refine Xv w R ?_
 rintro J cG ⟨rfl, b4⟩
 obtain ⟨p, g, a, h⟩ := E4 (Cx.e a b4) p g a h
 refine Xu 5 [(27, .tuple #[Vs ao.1, Vi ao.2]), (31, Vs ao.1), (32, Vi ao.2), (4, Vs ao.1), (5, Vi ao.2)] (Xk (Cs (Xu 1 [(34, Vs ao.1)] ?_)))
 obtain ⟨L, v, d⟩ := Bs d
 obtain ⟨o, u⟩ := Kc a [] [0, 1]
 have w := layout_Parse_w ao.1 _ cG (fl [[f], n]) (hgl.ev h) o  v
 refine Xv w R ?_
 rintro J cH ⟨au, av, rfl, a7, cb, bp, al⟩
 obtain ⟨p, g, a⟩ := E3 (Cx.c a [] a7 cb bp) p g a
 have I := i.cc h bp
 have h := h.ext a7
 have i := I
 have al := al.pl a
 have o := a.pk [1, 2] [[f], n] R
 have m := Pk (ls := [Bk au, [f], n]) [1, 2] [[f], n] R
 have g := g.sub m
 have al := al.ro m (pick_out a 0 R [some 1, some 2] [[f], n] R R)
 have a := o
 have i := i.px [1]
 refine Xu 7 [(33, .tuple #[Vl au L.1 av, Vi L.2.1, Vi L.2.2]), (36, Vl au L.1 av), (37, Vi L.2.1), (38, Vi L.2.2), (6, Vl au L.1 av), (7, Vi L.2.1), (8, Vi L.2.2)] (Xk (Cs (Xu 1 [(40, Vl au L.1 av)] ?_)))
 obtain ⟨S, v, d⟩ := Bs d
 obtain ⟨o, u⟩ := Kc a [] [0, 1]
 have w := tree_Tracks_w au av L.1 _ cH _ o (al.sub u) v
 refine Xv w R ?_
 rintro J cI ⟨ax, az, rfl, a8, cd, bq, aA⟩
 obtain ⟨p, g, al, a⟩ := E4 (Cx.c a [] a8 cd bq) p g al a
 have I := i.cc h bq
 have h := h.ext a8
 have i := I
 have aA := aA.pl a
 have o := a.pk [1, 2] [[f], n] R
 have m := Pk (ls := [Bk ax, [f], n]) [1, 2] [[f], n] R
 have g := g.sub m
 have al := al.sub m
 have aA := aA.ro m (pick_out a 0 R [some 1, some 2] [[f], n] R R)
 have a := o
 have i := i.px [1]
 refine Xu 5 [(39, .tuple #[Vl ax S.1 az, Vi S.2]), (42, Vl ax S.1 az), (43, Vi S.2), (9, Vl ax S.1 az), (10, Vi S.2)] (Xk (Cn [(3, Vp f 0), (5, Vi ao.2), (6, Vl au L.1 av), (8, Vi L.2.2), (9, Vl ax S.1 az), (10, Vi S.2)] (fun Z => ?_)))
 refine Cq (Cs (Xu 3 [(44, Vi ao.2), (45, .bool (ao.2 != 0)), (46, .bool (ao.2 != 0))] (Xw 46 _ R d (fun d => ?_) (fun d => ?_))))
 · refine Xu 12 [(47, U0), (48, U0), (49, .bool true), (50, .bool true), (51, U0), (52, U0), (53, .bool true), (54, .bool true), (55, U0), (56, U0), (57, U0), (58, .bool true)] (Xk (c_true R (Cs (Xu 1 [(2, .bool false)] (Xk (Cr (Kr (Rz (.bool false) R ?_))))))))
   obtain rfl := Sj d
   exact ⟨R, h⟩
 refine Xu 4 [(47, Vi L.2.2), (48, .bool (L.2.2 != 0)), (49, .bool (L.2.2 != 0)), (50, .bool (L.2.2 != 0))] (Xw 50 _ R d (fun d => ?_) (fun d => ?_))
 · refine Xu 8 [(51, U0), (52, U0), (53, .bool true), (54, .bool true), (55, U0), (56, U0), (57, U0), (58, .bool true)] (Xk (c_true R (Cs (Xu 1 [(2, .bool false)] (Xk (Cr (Kr (Rz (.bool false) R ?_))))))))
   obtain rfl := Sj d
   exact ⟨R, h⟩
 refine Xu 4 [(51, Vi S.2), (52, .bool (S.2 != 0)), (53, .bool (S.2 != 0)), (54, .bool (S.2 != 0))] (Xw 54 _ R d (fun d => ?_) (fun d => ?_))
 · refine Xu 4 [(55, U0), (56, U0), (57, U0), (58, .bool true)] (Xk (c_true R (Cs (Xu 1 [(2, .bool false)] (Xk (Cr (Kr (Rz (.bool false) R ?_))))))))
   obtain rfl := Sj d
   exact ⟨R, h⟩
 refine Xu 1 [(55, Vl ax S.1 az)] (Xz tsl22 R (Xu 2 [(57, .bool (((S.1).length : Int) == 0)), (58, .bool (((S.1).length : Int) == 0))] (Xk (Ci _ R d (fun d => ?_) (fun d => ?_)))))
 · refine Cs (Xu 1 [(2, .bool false)] (Xk (Cr (Kr (Rz (.bool false) R ?_)))))
   obtain rfl := Sj d
   exact ⟨R, h⟩
 refine Ck (Kt (Cs (Xu 3 [(59, Vl ax S.1 az), (60, Vp f 0), (61, Vl ax S.1 az)] (Xz tsl22 R ?_))))
 obtain ⟨c2, v, d⟩ := Bs d
 obtain ⟨o, u⟩ := Kc a [0] [1]
 have w := gen_Maker_Next_w f aj ak ae.1 bK.2 ((S.1).length : Int) _ cI _ o (g.sub u) p v
 refine Xv w R ?_
 rintro J cJ ⟨rfl, a9, cn⟩
 obtain ⟨g, al, aA, a⟩ := E4 (Cx.c0 a [0] a9) g al aA a
 have ab : ∀ z ∈ fl [[f]], K.heap.size ≤ z := FR.mem (ls := [[f]]) (i.pk [0] _ R)
 have h := h.then a9 (fun z ac => .inr (ab z ac))
 have p := cn
 obtain ⟨aX, cD, d⟩ := Bs d
 refine Xq0 (aA.el tsl22) tcell3 cD R (fun _ => R) (fun _ => Xu 1 [(11, Vi aX)] (Xk (Cn [(3, Vp f 0), (6, Vl au L.1 av), (11, Vi aX)] (fun Z => ?_))))
 refine Cs (Xu 2 [(67, Vl au L.1 av), (68, Vi aX)] ?_)
 obtain ⟨r, v, d⟩ := Bs d
 obtain ⟨o, u⟩ := Kc a [] [0, 1]
 have w := runoff_Path_w au av L.1 aX _ cJ _ o (al.sub u) v
 refine Xv w R ?_
 rintro J cK ⟨B, C, rfl, ba, ce, br, k⟩
 obtain ⟨p, g, a⟩ := E3 (Cx.c a [] ba ce br) p g a
 have I := i.cc h br
 have h := h.ext ba
 have i := I
 have k := k.pl a
 have o := a.pk [1, 2] [[f], n] R
 have m := Pk (ls := [Bk B, [f], n]) [1, 2] [[f], n] R
 have g := g.sub m
 have k := k.ro m (pick_out a 0 R [some 1, some 2] [[f], n] R R)
 have a := o
 have i := i.px [1]
 refine Xu 5 [(66, .tuple #[Vl B r.1 C, Vi r.2]), (70, Vl B r.1 C), (71, Vi r.2), (12, Vl B r.1 C), (13, Vi r.2)] (Xk (Cs (Xu 1 [(73, Vp f 0)] ?_)))
 obtain ⟨bH, v, d⟩ := Bs d
 obtain ⟨o, u⟩ := Kc a [0] [1]
 have w := gen_Maker_Table_w f aj ak ae.1 c2.2 _ cK _ o (g.sub u) p v
 refine Xv w R ?_
 rintro J cL ⟨a2, bO, rfl, bb, co, cf, bs, ah⟩
 obtain ⟨g, k, a⟩ := E3 (Cx.c a [0] bb cf bs) g k a
 have ab : ∀ z ∈ fl [[f]], K.heap.size ≤ z := FR.mem (ls := [[f]]) (i.pk [0] _ R)
 have I := i.cc h bs
 have h := h.then bb (fun z ac => .inr (ab z ac))
 have i := I
 have p := co
 have ah := ah.pl a
 have o := a.pk [1, 2] [[f], n] R
 have m := Pk (ls := [Bk a2, [f], n]) [1, 2] [[f], n] R
 have g := g.sub m
 have k := k.sub m
 have ah := ah.ro m (pick_out a 0 R [some 1, some 2] [[f], n] R R)
 have a := o
 have i := i.px [1]
 refine Xu 1 [(75, Vp f 0)] ?_
 obtain ⟨bI, v, d⟩ := Bs d
 obtain ⟨o, u⟩ := Kc a [0] [1]
 have w := gen_Maker_From_w f aj ak ae.1 bH.2 100 900 _ cL _ o (g.sub u) p v
 refine Xv w R ?_
 rintro J c7 ⟨rfl, bc, cp⟩
 obtain ⟨g, k, ah, a⟩ := E4 (Cx.c0 a [0] bc) g k ah a
 have ab : ∀ z ∈ fl [[f]], K.heap.size ≤ z := FR.mem (ls := [[f]]) (i.pk [0] _ R)
 have h := h.then bc (fun z ac => .inr (ab z ac))
 have p := cp
 refine Xu 1 [(77, Vp f 0)] (Xh #[Vi 2, Vi 4, Vi 6] 3 R (fun bN cO cv b0 b5 => ?_))
 have bD := Cx.e a b5
 obtain ⟨p, g, k, ah, a, h⟩ := E6 bD p g k ah a h
 have cz := bD.l (e := eI) cv b0 3 [2, 4, 6]
 obtain ⟨bJ, v, d⟩ := Bs d
 obtain ⟨o, u⟩ := Kc a [0] [1]
 have w := gen_Maker_Pick_w f aj ak ae.1 bI.2 (Ad bN 0) 3 ([2, 4, 6]) _ cO _ o (g.sub u) p (cz.sub u) v
 refine Xv w R ?_
 rintro J cQ ⟨rfl, be, cq⟩
 obtain ⟨g, k, ah, a⟩ := E4 (Cx.c0 a [0] be) g k ah a
 have ab : ∀ z ∈ fl [[f]], K.heap.size ≤ z := FR.mem (ls := [[f]]) (i.pk [0] _ R)
 have h := h.then be (fun z ac => .inr (ab z ac))
 have p := cq
 refine Xu 1 [(80, Vp f 0)] ?_
 obtain ⟨aL, v, d⟩ := Bs d
 obtain ⟨o, u⟩ := Kc a [0] [1]
 have w := gen_Maker_Weather_w f aj ak ae.1 bJ.2 _ cQ _ o (g.sub u) p v
 refine Xv w R ?_
 rintro J cS ⟨rfl, bf, cr⟩
 obtain ⟨g, k, ah, a⟩ := E4 (Cx.c0 a [0] bf) g k ah a
 have ab : ∀ z ∈ fl [[f]], K.heap.size ≤ z := FR.mem (ls := [[f]]) (i.pk [0] _ R)
 have h := h.then bf (fun z ac => .inr (ab z ac))
 have p := cr
 obtain ⟨U, v, d⟩ := Bs d
 obtain ⟨o, u⟩ := Kc a [] [0, 1]
 have w := resistance_Class_w a2 bO bH.1 bI.1 bJ.1 aL.1.1.1 aL.1.1.2 aL.1.2.1 aL.1.2.2 _ cS _ o (ah.sub u) v
 refine Xv w R ?_
 rintro J c8 ⟨rfl, b6⟩
 obtain ⟨p, g, k, a, h⟩ := E5 (Cx.e a b6) p g k a h
 refine Xu 3 [(72, .tuple #[.agg #[Vi U.1.1, Vi U.1.2], Vi U.2]), (83, .agg #[Vi U.1.1, Vi U.1.2]), (84, Vi U.2)] (Xj #[Vi 0, Vi 0] R (fun aa c9 bB aU b7 => ?_))
 have i := i.box h.size bB
 obtain ⟨p, g, k, a, h⟩ := E5 (Cx.b a b7 bB aU) p g k a h
 obtain ⟨cU, cw, b1, bg⟩ := Sa [Vi U.1.1, Vi U.1.2] tagg39 aU R R R
 refine Xp cw R ?_
 obtain ⟨p, g, k, a⟩ := E4 (Cx.j a 0 bg) p g k a
 have h := h.th bg i 0
 have aU := b1
 refine Xu 1 [(15, Vi U.2)] (Xk (Cn [(3, Vp f 0), (12, Vl B r.1 C), (13, Vi r.2), (14, Vp aa 0), (15, Vi U.2)] (fun Z => ?_)))
 refine Cs (Yl _ _ R (Ra 0 [Vi U.1.1, Vi U.1.2] tagg39 aU nn R) (Xu 1 [(87, Vl B r.1 C)] ?_))
 obtain ⟨D, v, d⟩ := Bs d
 obtain ⟨o, u⟩ := Kc a [] [0, 1, 2]
 have w := resistance_Spread_w U.1.1 U.1.2 B C r.1 _ cU _ o (k.sub u) v
 refine Xv w R ?_
 rintro J cX ⟨N, Q, rfl, bh, ch, bu, q⟩
 obtain ⟨p, g, k, a⟩ := E4 (Cx.c a [] bh ch bu) p g k a
 have I := i.cc h bu
 have h := h.ext bh
 have i := I
 have q := q.pl a
 have o := a.pk [1, 2, 3] [[aa], [f], n] R
 have m := Pk (ls := [Bk N, [aa], [f], n]) [1, 2, 3] [[aa], [f], n] R
 have g := g.sub m
 have k := k.sub m
 have q := q.ro m (pick_out a 0 R [some 1, some 2, some 3] [[aa], [f], n] R R)
 have a := o
 have i := i.px [1, 2]
 refine Xu 5 [(85, .tuple #[Vl N D.1 Q, Vi D.2]), (89, Vl N D.1 Q), (90, Vi D.2), (16, Vl N D.1 Q), (17, Vi D.2)] (Xk (Cq (Cs (Xu 3 [(91, Vi r.2), (92, .bool (r.2 != 0)), (93, .bool (r.2 != 0))] (Xw 93 _ R d (fun d => ?_) (fun d => ?_))))))
 · refine Xu 14 ([(94, U0), (95, U0), (96, .bool true), (97, .bool true), (98, U0), (99, U0), (100, .bool true), (101, .bool true)] ++ Un 102 5 ++ [(107, .bool true)]) (Xk (Cn [(3, Vp f 0), (12, Vl B r.1 C), (16, Vl N D.1 Q), (107, .bool true)] (fun Z => ?_)))
   refine c_true R (Cs (Xu 1 [(2, .bool false)] (Xk (Cr (Kr (Rz (.bool false) R ?_))))))
   obtain rfl := Sj d
   exact ⟨R, h⟩
 refine Xu 4 [(94, Vi U.2), (95, .bool (U.2 != 0)), (96, .bool (U.2 != 0)), (97, .bool (U.2 != 0))] (Xw 97 _ R d (fun d => ?_) (fun d => ?_))
 · refine Xu 10 ([(98, U0), (99, U0), (100, .bool true), (101, .bool true)] ++ Un 102 5 ++ [(107, .bool true)]) (Xk (Cn [(3, Vp f 0), (12, Vl B r.1 C), (16, Vl N D.1 Q), (107, .bool true)] (fun Z => ?_)))
   refine c_true R (Cs (Xu 1 [(2, .bool false)] (Xk (Cr (Kr (Rz (.bool false) R ?_))))))
   obtain rfl := Sj d
   exact ⟨R, h⟩
 refine Xu 4 [(98, Vi D.2), (99, .bool (D.2 != 0)), (100, .bool (D.2 != 0)), (101, .bool (D.2 != 0))] (Xw 101 _ R d (fun d => ?_) (fun d => ?_))
 · refine Xu 6 (Un 102 5 ++ [(107, .bool true)]) (Xk (Cn [(3, Vp f 0), (12, Vl B r.1 C), (16, Vl N D.1 Q), (107, .bool true)] (fun Z => ?_)))
   refine c_true R (Cs (Xu 1 [(2, .bool false)] (Xk (Cr (Kr (Rz (.bool false) R ?_))))))
   obtain rfl := Sj d
   exact ⟨R, h⟩
 refine Xu 1 [(102, Vl N D.1 Q)] (Xz tsl49 R (Xu 1 [(104, Vl B r.1 C)] (Xz tsl35 R (Xu 2 [(106, .bool (((D.1).length : Int) != ((r.1).length : Int))), (107, .bool (((D.1).length : Int) != ((r.1).length : Int)))] (Xk (Cn [(3, Vp f 0), (12, Vl B r.1 C), (16, Vl N D.1 Q), (107, .bool (((D.1).length : Int) != ((r.1).length : Int)))] (fun Z => ?_)))))))
 refine Ci _ R d (fun d => ?_) (fun d => ?_)
 · refine Cs (Xu 1 [(2, .bool false)] (Xk (Cr (Kr (Rz (.bool false) R ?_)))))
   obtain rfl := Sj d
   exact ⟨R, h⟩
 refine Ck (Kt (Cs (Xu 2 [(108, Vp f 0), (109, Vl B r.1 C)] ?_)))
 obtain ⟨y, v, d⟩ := Bs d
 obtain ⟨o, u⟩ := Kc a [1] [0, 2]
 have w := gen_Maker_Motion_w f aj ak ae.1 aL.2 B C r.1 _ cX _ o (g.sub u) p (k.sub u) v
 refine Xv w R ?_
 rintro J da ⟨a3, bQ, ag, aw, rfl, bi, cs, ci, bv, c4, t⟩
 obtain ⟨g, k, q, a⟩ := E4 (Cx.c a [1] bi ci bv) g k q a
 have ab : ∀ z ∈ fl [[f]], K.heap.size ≤ z := FR.mem (ls := [[f]]) (i.pk [1] _ R)
 have I := i.cc h bv
 have h := h.then bi (fun z ac => .inr (ab z ac))
 have i := I
 have p := cs
 have t := t.pl a
 have o := a.pk [1, 2, 3, 4] [Bk ag, [aa], [f], n] R
 have m := Pk (ls := [Bk a3, Bk ag, [aa], [f], n]) [1, 2, 3, 4] [Bk ag, [aa], [f], n] R
 have g := g.sub m
 have k := k.sub m
 have q := q.sub m
 have t := t.sub m
 have a := o
 have i := i.px [1, 2, 3]
 have o := a.pk [1, 2, 3] [[aa], [f], n] R
 have m := Pk (ls := [Bk ag, [aa], [f], n]) [1, 2, 3] [[aa], [f], n] R
 have g := g.sub m
 have k := k.sub m
 have q := q.sub m
 have t := t.ro m (pick_out a 0 R [some 1, some 2, some 3] [[aa], [f], n] R R)
 have a := o
 have i := i.px [1, 2]
 refine Xj #[Vi 0, Vi 0, Z0, Vi 0, Z0] R (fun x db bC G b8 => ?_)
 have i := i.box h.size bC
 obtain ⟨p, g, k, q, t, a, h⟩ := E7 (Cx.b a b8 bC G) p g k q t a h
 obtain ⟨dc, cx, b2, bj⟩ := Sa [Vi y.1.1.1, Vi y.1.1.2, Vl a3 y.1.2.1 bQ, Vi y.1.2.2.1, Vl ag y.1.2.2.2 aw] tagg53 G R R R
 refine Xp cx R ?_
 obtain ⟨p, g, k, q, t, a⟩ := E6 (Cx.j a 0 bj) p g k q t a
 have h := h.th bj i 0
 have G := b2
 refine Xk (Cs (Xu 1 [(111, Vl N D.1 Q)] (Yf (Vp x 0) (Vp x 2) R (Rf tfld53_1 _) ?_)))
 obtain ⟨cY, cy, b3, bk⟩ := Sx 2 (Vl N D.1 Q) tcell49 G
 refine Xp cy R ?_
 obtain ⟨p, g, k, q, t, a⟩ := E6 (Cx.j a 0 bk) p g k q t a
 have h := h.th bk i 0
 have G := b3
 refine Xk (Cs (Xu 1 [(114, Vl B r.1 C)] (Yl _ _ R (Ra 0 [Vi y.1.1.1, Vi y.1.1.2, Vl N D.1 Q, Vi y.1.2.2.1, Vl ag y.1.2.2.2 aw] tagg53 G nn R) ?_)))
 obtain ⟨A, v, d⟩ := Bs d
 obtain ⟨o, u⟩ := Kc a [] [0, 1, 2, 3]
 have w := runoff_Pass_w B C r.1 y.1.1.1 y.1.1.2 N Q D.1 y.1.2.2.1 ag aw y.1.2.2.2 _ cY _ o (k.sub u) (q.sub u) (t.sub u) v
 refine Xv w R ?_
 rintro J dd ⟨O, X, rfl, bl, cj, bw, F⟩
 obtain ⟨p, g, k, q, t, G, a⟩ := E7 (Cx.c a [] bl cj bw) p g k q t G a
 have I := i.cc h bw
 have h := h.ext bl
 have i := I
 have F := F.pl a
 have o := a.pk [1, 2, 3, 4] [[x], [aa], [f], n] R
 have m := Pk (ls := [Bk O, [x], [aa], [f], n]) [1, 2, 3, 4] [[x], [aa], [f], n] R
 have g := g.sub m
 have k := k.sub m
 have q := q.sub m
 have t := t.sub m
 have F := F.ro m (pick_out a 0 R [some 1, some 2, some 3, some 4] [[x], [aa], [f], n] R R)
 have a := o
 have i := i.px [1, 2, 3]
 refine Xu 5 [(113, .tuple #[Vl O A.1 X, Vi A.2]), (117, Vl O A.1 X), (118, Vi A.2), (19, Vl O A.1 X), (5, Vi A.2)] (Xk (Cq (Cs (Xu 3 [(119, Vi A.2), (120, .bool (A.2 != 0)), (121, .bool (A.2 != 0))] (Xw 121 _ R d (fun d => ?_) (fun d => ?_))))))
 · refine Xu 7 (Un 122 6 ++ [(128, .bool true)]) (Xk (Cn [(3, Vp f 0), (12, Vl B r.1 C), (18, Vp x 0), (19, Vl O A.1 X), (128, .bool true)] (fun Z => ?_)))
   refine c_true R (Cs (Xu 1 [(2, .bool false)] (Xk (Cr (Kr (Rz (.bool false) R ?_))))))
   obtain rfl := Sj d
   exact ⟨R, h⟩
 refine Xu 1 [(122, Vl O A.1 X)] (Xz tsl55 R (Xu 1 [(124, Vl B r.1 C)] (Xz tsl35 R (Xu 3 [(126, Vi (i64.wrap (((r.1).length : Int) + 1))), (127, .bool (((A.1).length : Int) != (i64.wrap (((r.1).length : Int) + 1)))), (128, .bool (((A.1).length : Int) != (i64.wrap (((r.1).length : Int) + 1))))] (Xk (Cn [(3, Vp f 0), (12, Vl B r.1 C), (18, Vp x 0), (19, Vl O A.1 X), (128, .bool (((A.1).length : Int) != (i64.wrap (((r.1).length : Int) + 1))))] (fun Z => ?_)))))))
 refine Ci _ R d (fun d => ?_) (fun d => ?_)
 · refine Cs (Xu 1 [(2, .bool false)] (Xk (Cr (Kr (Rz (.bool false) R ?_)))))
   obtain rfl := Sj d
   exact ⟨R, h⟩
 refine Ck (Kt (Cq (Cs (Xu 1 [(20, Vi 0)] (Xk (Cb ?_))))))
 obtain ⟨g, k, q, t, F, a⟩ := E6 (Cx.s a [2, 0, 3]) g k q t F a
 have i := i.px [2, 0]
 obtain ⟨bY, aZ, aS⟩ := Bs d
 obtain ⟨aI, aZ⟩ := Lo aZ
 refine Cl (Lr hmx (σ := Nat × Int × Int) (fun s => match s with | (_, aG, Y) => [(3, Vp f 0), (12, Vl B r.1 C), (18, Vp x 0), (19, Vl O A.1 X), (20, Vi Y)]) (fun s H => match s with | (a1, aG, Y) => loopN (top_TopHump_L57 ae r D y A) a1 (aG, Y) = some bY ∧ Ev [] K H ∧ (fun af => MS H af ∧ FR K.heap.size [[f], [x]] ∧ SlR eI H (fl af) aj ak ae.1 ∧ H.heap[f]? = some (.cells #[Vl aj ae.1 ak, Vi aG] 72 (0, 0)) ∧ SlR (eProd eI (eIt4)) H (fl af) B C r.1 ∧ SlR (eProd eI eI) H (fl af) N Q D.1 ∧ SlR eI H (fl af) ag aw y.1.2.2.2 ∧ H.heap[x]? = some (.cells #[Vi y.1.1.1, Vi y.1.1.2, Vl N D.1 Q, Vi y.1.2.2.1, Vl ag y.1.2.2.2 aw] 53 (0, 0)) ∧ SlR (eProd (eProd eI eI) (eProd (eProd eI eI) (eProd eBool eBool))) H (fl af) O X A.1) [[f], [x], n]) (fun s => s.1) (aI, y.2, 0) ⟨R, R, R, R, R, T0⟩ ⟨aZ, h, a, i, g, p, k, q, t, G, F⟩ ?_)
 rintro ⟨aI, aG, Y⟩ Z bF ⟨ay, h, a, i, g, p, k, q, t, G, F⟩
 rcases aI with _ | aI
 · exact (Lz ay).elim
 obtain ⟨c5, d, ay⟩ := Bs ay
 refine Cq (Cs (Xu 2 [(129, Vi Y), (130, Bd (Y < 3))] (Xk (Cn [(3, Vp f 0), (12, Vl B r.1 C), (18, Vp x 0), (19, Vl O A.1 X), (20, Vi Y), (130, Bd (Y < 3))] (fun Z => ?_)))))
 refine Ci _ R d (fun d => ?_) (fun d => ?_)
 · refine Ck (Kt (Cq (Cb (Cs (Xu 2 [(134, Vl B r.1 C), (135, Vp f 0)] (Yl _ _ R (Ra 0 [Vi y.1.1.1, Vi y.1.1.2, Vl N D.1 Q, Vi y.1.2.2.1, Vl ag y.1.2.2.2 aw] tagg53 G nn R) ?_))))))
   obtain ⟨aN, v, d⟩ := Bs d
   obtain ⟨o, u⟩ := Kc a [0] [1, 2]
   have w := gen_Maker_Run_w f aj ak ae.1 aG y.1.1.1 y.1.1.2 N Q D.1 y.1.2.2.1 ag aw y.1.2.2.2 _ bF _ o (g.sub u) p (q.sub u) (t.sub u) v
   refine Xv w R ?_
   rintro J cZ ⟨a4, bS, aD, bX, rfl, bm, ct, ck, bx, aB, aC⟩
   obtain ⟨g, k, G, q, t, F, a⟩ := E7 (Cx.c a [0] bm ck bx) g k G q t F a
   have ab : ∀ z ∈ fl [[f]], K.heap.size ≤ z := FR.mem (ls := [[f]]) (i.pk [0] _ R)
   have I := i.cc h bx
   have h := h.then bm (fun z ac => .inr (ab z ac))
   have i := I
   have p := ct
   have aB := aB.pl a
   have aC := aC.pl a
   have o := a.pk [1, 2, 3, 4] [Bk aD, [f], [x], n] R
   have m := Pk (ls := [Bk a4, Bk aD, [f], [x], n]) [1, 2, 3, 4] [Bk aD, [f], [x], n] R
   have g := g.sub m
   have k := k.sub m
   have q := q.sub m
   have t := t.sub m
   have F := F.sub m
   have aB := aB.ro m (pick_out a 0 R [some 1, some 2, some 3, some 4] [Bk aD, [f], [x], n] R R)
   have aC := aC.sub m
   have a := o
   have i := i.px [1, 2, 3]
   have o := a.pk [1, 2, 3] [[f], [x], n] R
   have m := Pk (ls := [Bk aD, [f], [x], n]) [1, 2, 3] [[f], [x], n] R
   have g := g.sub m
   have k := k.sub m
   have q := q.sub m
   have t := t.sub m
   have F := F.sub m
   have aB := aB.sub m
   have aC := aC.ro m (pick_out a 0 R [some 1, some 2, some 3] [[f], [x], n] R R)
   have a := o
   have i := i.px [1, 2]
   obtain ⟨E, v, d⟩ := Bs d
   obtain ⟨o, u⟩ := Kc a [] [0, 1, 2]
   have w := runoff_Point_w B C r.1 aN.1.1 a4 bS aN.1.2.1 aD bX aN.1.2.2 _ cZ _ o (k.sub u) (aB.sub u) (aC.sub u) v
   refine Xv w R ?_
   rintro J de ⟨ai, ap, rfl, bn, cl, bz, am⟩
   obtain ⟨p, g, k, G, q, t, F, a⟩ := E8 (Cx.c a [] bn cl bz) p g k G q t F a
   have I := i.cc h bz
   have h := h.ext bn
   have i := I
   have am := am.pl a
   have o := a.pk [1, 2, 3] [[f], [x], n] R
   have m := Pk (ls := [Bk ai, [f], [x], n]) [1, 2, 3] [[f], [x], n] R
   have g := g.sub m
   have k := k.sub m
   have q := q.sub m
   have t := t.sub m
   have F := F.sub m
   have am := am.ro m (pick_out a 0 R [some 1, some 2, some 3] [[f], [x], n] R R)
   have a := o
   have i := i.px [1, 2]
   refine Xu 7 [(133, .tuple #[Vl ai E.1 ap, Vi E.2.1, Vi E.2.2]), (139, Vl ai E.1 ap), (140, Vi E.2.1), (141, Vi E.2.2), (21, Vl ai E.1 ap), (22, Vi E.2.1), (23, Vi E.2.2)] (Xk (Cq (Cs (Xu 3 [(142, Vi E.2.2), (143, .bool (E.2.2 != 0)), (144, .bool (E.2.2 != 0))] (Xw 144 _ R d (fun d => ?_) (fun d => ?_))))))
   · refine Xu 6 (Un 145 5 ++ [(150, .bool true)]) (Xk (Cn [(3, Vp f 0), (12, Vl B r.1 C), (18, Vp x 0), (19, Vl O A.1 X), (20, Vi Y), (21, Vl ai E.1 ap), (150, .bool true)] (fun Z => ?_)))
     refine c_true R (Cs (Xu 1 [(2, .bool false)] (Xk (Cr (Kr (Kb (Kr ?_)))))))
     obtain rfl := Sj d
     have aq := Sj ay
     subst aq
     have d := aS
     refine Kr (Kb (Kr (Rz (.bool false) R ?_)))
     obtain rfl := Sj d
     exact ⟨R, h⟩
   refine Xu 1 [(145, Vl ai E.1 ap)] (Xz tsl58 R (Xu 1 [(147, Vl O A.1 X)] (Xz tsl55 R (Xu 2 [(149, Bd (((E.1).length : Int) > ((A.1).length : Int))), (150, Bd (((E.1).length : Int) > ((A.1).length : Int)))] (Xk (Cn [(3, Vp f 0), (12, Vl B r.1 C), (18, Vp x 0), (19, Vl O A.1 X), (20, Vi Y), (21, Vl ai E.1 ap), (150, Bd (((E.1).length : Int) > ((A.1).length : Int)))] (fun Z => ?_)))))))
   refine Ci _ R d (fun d => ?_) (fun d => ?_)
   · refine Cs (Xu 1 [(2, .bool false)] (Xk (Cr (Kr (Kb (Kr ?_))))))
     obtain rfl := Sj d
     have aq := Sj ay
     subst aq
     have d := aS
     refine Kr (Kb (Kr (Rz (.bool false) R ?_)))
     obtain rfl := Sj d
     exact ⟨R, h⟩
   refine Ck (Kt (Cs (Xu 1 [(151, Vl ai E.1 ap)] (Xz tsl58 R (Xu 1 [(153, Vi 0)] (Xk (Cb ?_)))))))
   obtain ⟨bZ, a0, a6⟩ := Bs d
   obtain ⟨aJ, a0⟩ := Lo a0
   refine Cl (Lr hmx (σ := Nat × Int) (fun s => match s with | (_, ad) => [(3, Vp f 0), (12, Vl B r.1 C), (18, Vp x 0), (19, Vl O A.1 X), (20, Vi Y), (21, Vl ai E.1 ap), (152, Vi ((E.1).length : Int)), (153, Vi ad)]) (fun s H => match s with | (a1, ad) => loopN (top_TopHump_L67 A E) a1 ad = some bZ ∧ Ev [] K H ∧ (fun af => MS H af ∧ FR K.heap.size [[f], [x]] ∧ SlR eI H (fl af) aj ak ae.1 ∧ H.heap[f]? = some (.cells #[Vl aj ae.1 ak, Vi aN.2] 72 (0, 0)) ∧ SlR (eProd eI (eIt4)) H (fl af) B C r.1 ∧ SlR (eProd eI eI) H (fl af) N Q D.1 ∧ SlR eI H (fl af) ag aw y.1.2.2.2 ∧ H.heap[x]? = some (.cells #[Vi y.1.1.1, Vi y.1.1.2, Vl N D.1 Q, Vi y.1.2.2.1, Vl ag y.1.2.2.2 aw] 53 (0, 0)) ∧ SlR (eProd (eProd eI eI) (eProd (eProd eI eI) (eProd eBool eBool))) H (fl af) O X A.1 ∧ SlR (eProd eI eI) H (fl af) ai ap E.1) [[f], [x], n]) (fun s => s.1) (aJ, 0) ⟨R, R, R, R, R, R, R, R, T0⟩ ⟨a0, h, a, i, g, p, k, q, t, G, F, am⟩ ?_)
   rintro ⟨aJ, ad⟩ Z bG ⟨aE, h, a, i, g, p, k, q, t, G, F, am⟩
   rcases aJ with _ | aJ
   · exact (Lz aE).elim
   obtain ⟨c6, d, aE⟩ := Bs aE
   refine Cs (Xu 1 [(154, Bd (ad < ((E.1).length : Int)))] (Xk (Cn [(3, Vp f 0), (12, Vl B r.1 C), (18, Vp x 0), (19, Vl O A.1 X), (20, Vi Y), (21, Vl ai E.1 ap), (152, Vi ((E.1).length : Int)), (153, Vi ad), (154, Bd (ad < ((E.1).length : Int)))] (fun Z => ?_))))
   refine Cq (Ci _ R d (fun d => ?_) (fun d => ?_))
   · refine Ck (Kt (Cq (Cb (Cs (Xu 2 [(155, Vi ad), (24, Vi ad)] (Xk (Cq (Cd [] [(0, false), (1, false), (2, false), (3, false), (4, false), (5, false), (6, false), (7, false), (8, true), (9, false)] _ (by kernel_rfl) R ?_))))))))
     obtain ⟨p, g, k, G, q, t, F, am, a, h⟩ := E10 (Cx.e a (Ev.drew bG)) p g k G q t F am a h
     refine Xu 2 [(156, Vl ai E.1 ap), (157, Vi ad)] ?_
     obtain ⟨aY, cE, d⟩ := Bs d
     refine Xqa [Vi aY.1, Vi aY.2] (am.el tsl58) tagg66 cE R (fun _ => R) (fun _ => Xu 2 [(160, Vl O A.1 X), (161, Vi ad)] ?_)
     obtain ⟨an, cF, d⟩ := Bs d
     refine Xqa [Vi an.1.1, Vi an.1.2, Vi an.2.1.1, Vi an.2.1.2, .bool an.2.2.1, .bool an.2.2.2] (F.el tsl55) tagg68 cF R (fun _ => R) (fun _ => ?_)
     obtain ⟨c3, v, d⟩ := Bs d
     have w := runoff_In_w aY.1 aY.2 an.1.1 an.1.2 an.2.1.1 an.2.1.2 an.2.2.1 an.2.2.2 _ (bG).drew v
     refine Xv w R ?_
     rintro J df ⟨rfl, b9⟩
     obtain ⟨p, g, k, G, q, t, F, am, a, h⟩ := E10 (Cx.e a b9) p g k G q t F am a h
     refine Xu 1 [(165, .bool (!c3))] (Xk (Ci _ R d (fun d => ?_) (fun d => ?_)))
     · refine Cs (Xu 1 [(2, .bool false)] (Xk (Cr (Kb (Kr ?_)))))
       obtain rfl := Sj d
       have aq := Sj aE
       subst aq
       have d := a6
       refine Kr (Kb (Kb (Kr ?_)))
       obtain rfl := Sj d
       have aq := Sj ay
       subst aq
       have d := aS
       refine Kr (Kb (Kr (Rz (.bool false) R ?_)))
       obtain rfl := Sj d
       exact ⟨R, h⟩
     refine Ck (Kl (Kt (Cp (Xu 2 [(166, Vi (i64.wrap (ad + 1))), (153, Vi (i64.wrap (ad + 1)))] (Xe R ?_)))))
     obtain rfl := Sj d
     exact Kt ⟨(aJ, i64.wrap (ad + 1)), ⟨R, R, R, R, R, R, R, R, T0⟩, ⟨aE, h, a, i, g, p, k, q, t, G, F, am⟩, Ns _⟩
   refine Ce (Ke ?_)
   obtain rfl := Sj d
   have aq := Sj aE
   subst aq
   have d := a6
   refine Ke (Ki (Kl (Kt (Cn [(3, Vp f 0), (12, Vl B r.1 C), (18, Vp x 0), (19, Vl O A.1 X), (20, Vi Y)] (fun Z => ?_)))))
   refine Cp (Xu 3 [(131, Vi Y), (132, Vi (i64.wrap (Y + 1))), (20, Vi (i64.wrap (Y + 1)))] (Xe R ?_))
   obtain rfl := Sj d
   exact Kt ⟨(aI, aN.2, i64.wrap (Y + 1)), ⟨R, R, R, R, R, T0⟩, ⟨ay, h, a, i, g, p, k, q, t, G, F⟩, Ns _⟩
 refine Ce (Ke ?_)
 obtain rfl := Sj d
 have aq := Sj ay
 subst aq
 have d := aS
 refine Ke (Ki (Kt (c_norm [] T0 (fun Z => ?_))))
 refine Cs ?_
 obtain ⟨bL, v, d⟩ := Bs d
 have w := top_awake_w _ bF v
 refine Xv w R ?_
 rintro J dg ⟨rfl, ca⟩
 have h := E1 (Cx.e a ca) h
 refine Xu 1 [(2, .bool bL)] (Xk (Cr (Rz (.bool bL) R ?_)))
 obtain rfl := Sj d
 exact ⟨R, h⟩
end Go.Proofs.YtlgdhajakblkaaaGreatDoor
