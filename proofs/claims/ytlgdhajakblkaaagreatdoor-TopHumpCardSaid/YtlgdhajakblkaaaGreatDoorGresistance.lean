
/- Walks, printed by program: each function returns what the partial function of the same name returns. Conditions: those of each theorem. -/
import Derived.Test.YtlgdhajakblkaaaGreatDoorGT
import Derived.Test.YtlgdhajakblkaaaGreatDoorGinterval
import Derived.Test.YtlgdhajakblkaaaGreatDoorGslresistance
set_option linter.unusedVariables false
set_option linter.unusedSimpArgs false
set_option maxRecDepth 4000
namespace Go.Proofs.YtlgdhajakblkaaaGreatDoor
open Go Go.V Go.Proofs Go.IntKind
def resistance_Valid_L3 (c : List (Int × Int × Int)) (d : Int) : Option (Step Int (Unit ⊕ Unit)) :=
match d with
| b =>
(if (decide (b < ((c).length : Int))) = true then
((idx c b).bind fun a =>
(if (decide (a.1 < 1)) = true then
some (.done (.inl ()))
else
(if (decide (a.1 > 2000)) = true then
some (.done (.inl ()))
else
(if (decide (b > 0)) = true then
((idx c (i64.wrap (b - 1))).bind fun e =>
(if (decide (a.1 ≤ e.1)) = true then
some (.done (.inl ()))
else
(if (decide (a.2.1 < 0)) = true then
some (.done (.inl ()))
else
(if (decide (a.2.1 > a.2.2)) = true then
some (.done (.inl ()))
else
(if (decide (a.2.2 > 5000)) = true then
some (.done (.inl ()))
else
some (.next (i64.wrap (b + 1))))))))
else
(if (decide (a.2.1 < 0)) = true then
some (.done (.inl ()))
else
(if (decide (a.2.1 > a.2.2)) = true then
some (.done (.inl ()))
else
(if (decide (a.2.2 > 5000)) = true then
some (.done (.inl ()))
else
some (.next (i64.wrap (b + 1))))))))))
else
some (.done (.inr ())))
def resistance_Valid (a : List (Int × Int × Int)) : Option Int :=
(if (decide (((a).length : Int) < 1)) = true then
some 3
else
(if (decide (((a).length : Int) > 16)) = true then
some 3
else
((loop (resistance_Valid_L3 a) 0).bind fun b => match b with
| (.inl _) => some 1
| (.inr _) => some 0)))
theorem resistance_Valid_w (f g d D u y) (k : MS u [y]) (n : SlR (eProd eI (eProd eI eI)) u (fl [y]) f g d) (a : resistance_Valid d = some D) : CallVC Tryz.prog 66 [Vl f d g] u fun L x => L = Vi D ∧ Ev [] u x := by
 refine Cw hmx Tryz.func66 R R R ?_
 have i := Ev.refl [] u
 have r := FR.nil u.heap.size
 refine Cs (Xu 1 [(2, Vi 0)] (Xk (Cq (Cs (Xu 1 [(5, Vl f d g)] (Xz tsl42 R (Xu 2 [(7, Bd (((d).length : Int) < 1)), (8, Bd (((d).length : Int) < 1))] (Xw 8 _ R a (fun a => ?_) (fun a => ?_)))))))))
 · refine Xu 4 [(9, U0), (10, U0), (11, U0), (12, .bool true)] (Xk (c_true R (Cs (Xu 1 [(2, Vi 3)] (Xk (Cr (Kr (Rz (Vi 3) R ?_))))))))
   obtain rfl := Sj a
   exact ⟨R, i⟩
 refine Xu 1 [(9, Vl f d g)] (Xz tsl42 R (Xu 2 [(11, Bd (((d).length : Int) > 16)), (12, Bd (((d).length : Int) > 16))] (Xk (Ci _ R a (fun a => ?_) (fun a => ?_)))))
 · refine Cs (Xu 1 [(2, Vi 3)] (Xk (Cr (Kr (Rz (Vi 3) R ?_)))))
   obtain rfl := Sj a
   exact ⟨R, i⟩
 refine Ck (Kt (Cq (Cs (Xu 1 [(13, Vl f d g)] (Xz tsl42 R (Xu 1 [(15, Vi 0)] (Xk (Cb ?_))))))))
 obtain ⟨E, A, t⟩ := Bs a
 obtain ⟨v, A⟩ := Lo A
 refine Cl (Lr hmx (σ := Nat × Int) (fun w => match w with | (_, h) => [(0, Vl f d g), (13, Vl f d g), (14, Vi ((d).length : Int)), (15, Vi h)]) (fun w x => match w with | (K, h) => loopN (resistance_Valid_L3 d) K h = some E ∧ Ev [] u x ∧ MS x [y] ∧ FR u.heap.size [] ∧ SlR (eProd eI (eProd eI eI)) x (fl [y]) f g d) (fun w => w.1) (v, 0) ⟨R, R, R, R, T0⟩ ⟨A, i, k, r, n⟩ ?_)
 rintro ⟨v, h⟩ p S ⟨o, i, k, r, n⟩
 rcases v with _ | v
 · exact (Lz o).elim
 obtain ⟨O, a, o⟩ := Bs o
 refine Cs (Xu 1 [(16, Bd (h < ((d).length : Int)))] (Xk (Cn [(0, Vl f d g), (13, Vl f d g), (14, Vi ((d).length : Int)), (15, Vi h), (16, Bd (h < ((d).length : Int)))] (fun p => ?_))))
 refine Cq (Ci _ R a (fun a => ?_) (fun a => ?_))
 · refine Ck (Kt (Cq (Cb (Cs (Xu 1 [(17, Vi h)] ?_)))))
   obtain ⟨c, J, a⟩ := Bs a
   refine Xqa [Vi c.1, Vi c.2.1, Vi c.2.2] (n.el tsl42) tagg108 J R (fun _ => R) (fun _ => Xj #[Vi 0, Vi 0, Vi 0] R (fun q Q C m G => ?_))
   have r := r.box i.size C
   obtain ⟨n, k, i⟩ := E3 (Cx.b k G C m) n k i
   refine Xu 1 [(3, Vi h)] ?_
   obtain ⟨N, H, F, B⟩ := Sa [Vi c.1, Vi c.2.1, Vi c.2.2] tagg108 m R R R
   refine Xp H R ?_
   obtain ⟨n, k⟩ := E2 (Cx.j k 0 B) n k
   have i := i.th B r 0
   have m := F
   refine Xk (Cq (Cd [] [(0, false), (1, false), (2, false), (3, false), (4, false), (5, false), (6, false), (7, false), (8, false), (9, false), (10, false), (11, false), (12, false), (13, false), (14, false), (15, false), (16, false), (17, false), (18, false), (19, false), (20, false), (21, false), (22, false), (23, false), (24, false), (25, false), (26, false), (27, false), (28, false), (29, false), (30, false), (31, false), (32, false), (33, false), (34, false), (35, false), (36, false), (37, false), (38, false), (39, false)] _ (by kernel_rfl) R ?_))
   obtain ⟨n, m, k, i⟩ := E4 (Cx.e k (Ev.drew N)) n m k i
   refine Yg q 0 0 (Vi c.1) R R (Rf tfld108_0 _) tcell3 m nn R (Xu 2 [(22, Bd (c.1 < 1)), (23, Bd (c.1 < 1))] (Xw 23 _ R a (fun a => ?_) (fun a => ?_)))
   · refine Xu 36 (Un 24 3 ++ [(27, .bool true), (28, .bool true)] ++ Un 29 13 ++ [(42, .bool true), (43, .bool true)] ++ Un 44 3 ++ [(47, .bool true), (48, .bool true)] ++ Un 49 5 ++ [(54, .bool true), (55, .bool true)] ++ Un 56 3 ++ [(59, .bool true)]) (Xk (Cn [(0, Vl f d g), (13, Vl f d g), (14, Vi ((d).length : Int)), (15, Vi h), (59, .bool true)] (fun p => ?_)))
     refine c_true R (Cs (Xu 1 [(2, Vi 1)] (Xk (Cr (Kb (Kr ?_))))))
     obtain rfl := Sj a
     have l := Sj o
     subst l
     have a := t
     refine Kr (Kb (Kr (Rz (Vi 1) R ?_)))
     obtain rfl := Sj a
     exact ⟨R, i⟩
   refine Yg q 0 0 (Vi c.1) R R (Rf tfld108_0 _) tcell3 m nn R (Xu 3 [(26, Bd (c.1 > 2000)), (27, Bd (c.1 > 2000)), (28, Bd (c.1 > 2000))] (Xw 28 _ R a (fun a => ?_) (fun a => ?_)))
   · refine Xu 31 (Un 29 13 ++ [(42, .bool true), (43, .bool true)] ++ Un 44 3 ++ [(47, .bool true), (48, .bool true)] ++ Un 49 5 ++ [(54, .bool true), (55, .bool true)] ++ Un 56 3 ++ [(59, .bool true)]) (Xk (Cn [(0, Vl f d g), (13, Vl f d g), (14, Vi ((d).length : Int)), (15, Vi h), (59, .bool true)] (fun p => ?_)))
     refine c_true R (Cs (Xu 1 [(2, Vi 1)] (Xk (Cr (Kb (Kr ?_))))))
     obtain rfl := Sj a
     have l := Sj o
     subst l
     have a := t
     refine Kr (Kb (Kr (Rz (Vi 1) R ?_)))
     obtain rfl := Sj a
     exact ⟨R, i⟩
   refine Xu 3 [(29, Vi h), (30, Bd (h > 0)), (31, Bd (h > 0))] (Xw 31 _ R a (fun a => ?_) (fun a => ?_))
   · refine Yg q 0 0 (Vi c.1) R R (Rf tfld108_0 _) tcell3 m nn R (Xu 3 [(34, Vl f d g), (35, Vi h), (36, Vi (i64.wrap (h - 1)))] ?_)
     obtain ⟨z, I, a⟩ := Bs a
     refine Xq (n.el tsl42) tfld108_0 tcell3 I R (fun _ => R) (fun _ => Xu 4 [(40, Bd (c.1 ≤ z.1)), (41, Bd (c.1 ≤ z.1)), (42, Bd (c.1 ≤ z.1)), (43, Bd (c.1 ≤ z.1))] (Xw 43 _ R a (fun a => ?_) (fun a => ?_)))
     · refine Xu 16 (Un 44 3 ++ [(47, .bool true), (48, .bool true)] ++ Un 49 5 ++ [(54, .bool true), (55, .bool true)] ++ Un 56 3 ++ [(59, .bool true)]) (Xk (Cn [(0, Vl f d g), (13, Vl f d g), (14, Vi ((d).length : Int)), (15, Vi h), (59, .bool true)] (fun p => ?_)))
       refine c_true R (Cs (Xu 1 [(2, Vi 1)] (Xk (Cr (Kb (Kr ?_))))))
       obtain rfl := Sj a
       have l := Sj o
       subst l
       have a := t
       refine Kr (Kb (Kr (Rz (Vi 1) R ?_)))
       obtain rfl := Sj a
       exact ⟨R, i⟩
     refine Yg q 0 1 (Vi c.2.1) R R (Rf tfld108_1 _) tcell3 m nn R (Xu 3 [(46, Bd (c.2.1 < 0)), (47, Bd (c.2.1 < 0)), (48, Bd (c.2.1 < 0))] (Xw 48 _ R a (fun a => ?_) (fun a => ?_)))
     · refine Xu 11 (Un 49 5 ++ [(54, .bool true), (55, .bool true)] ++ Un 56 3 ++ [(59, .bool true)]) (Xk (Cn [(0, Vl f d g), (13, Vl f d g), (14, Vi ((d).length : Int)), (15, Vi h), (59, .bool true)] (fun p => ?_)))
       refine c_true R (Cs (Xu 1 [(2, Vi 1)] (Xk (Cr (Kb (Kr ?_))))))
       obtain rfl := Sj a
       have l := Sj o
       subst l
       have a := t
       refine Kr (Kb (Kr (Rz (Vi 1) R ?_)))
       obtain rfl := Sj a
       exact ⟨R, i⟩
     refine Yg q 0 1 (Vi c.2.1) R R (Rf tfld108_1 _) tcell3 m nn R (Yg q 0 2 (Vi c.2.2) R R (Rf tfld108_2 _) tcell3 m nn R (Xu 3 [(53, Bd (c.2.1 > c.2.2)), (54, Bd (c.2.1 > c.2.2)), (55, Bd (c.2.1 > c.2.2))] (Xw 55 _ R a (fun a => ?_) (fun a => ?_))))
     · refine Xu 4 (Un 56 3 ++ [(59, .bool true)]) (Xk (Cn [(0, Vl f d g), (13, Vl f d g), (14, Vi ((d).length : Int)), (15, Vi h), (59, .bool true)] (fun p => ?_)))
       refine c_true R (Cs (Xu 1 [(2, Vi 1)] (Xk (Cr (Kb (Kr ?_))))))
       obtain rfl := Sj a
       have l := Sj o
       subst l
       have a := t
       refine Kr (Kb (Kr (Rz (Vi 1) R ?_)))
       obtain rfl := Sj a
       exact ⟨R, i⟩
     refine Yg q 0 2 (Vi c.2.2) R R (Rf tfld108_2 _) tcell3 m nn R (Xu 2 [(58, Bd (c.2.2 > 5000)), (59, Bd (c.2.2 > 5000))] (Xk (Cn [(0, Vl f d g), (13, Vl f d g), (14, Vi ((d).length : Int)), (15, Vi h), (59, Bd (c.2.2 > 5000))] (fun p => ?_))))
     refine Ci _ R a (fun a => ?_) (fun a => ?_)
     · refine Cs (Xu 1 [(2, Vi 1)] (Xk (Cr (Kb (Kr ?_)))))
       obtain rfl := Sj a
       have l := Sj o
       subst l
       have a := t
       refine Kr (Kb (Kr (Rz (Vi 1) R ?_)))
       obtain rfl := Sj a
       exact ⟨R, i⟩
     refine Ck (Kl (Kt (Cp (Xu 2 [(60, Vi (i64.wrap (h + 1))), (15, Vi (i64.wrap (h + 1)))] (Xe R ?_)))))
     obtain rfl := Sj a
     obtain ⟨n, k⟩ := E2 (Cx.s k [1]) n k
     have r := r.px []
     exact Kt ⟨(v, i64.wrap (h + 1)), ⟨R, R, R, R, T0⟩, ⟨o, i, k, r, n⟩, Ns _⟩
   refine Xu 12 [(32, U0), (33, U0), (34, U0), (35, U0), (36, U0), (37, U0), (38, U0), (39, U0), (40, U0), (41, .bool false), (42, .bool false), (43, .bool false)] (Yg q 0 1 (Vi c.2.1) R R (Rf tfld108_1 _) tcell3 m nn R (Xu 3 [(46, Bd (c.2.1 < 0)), (47, Bd (c.2.1 < 0)), (48, Bd (c.2.1 < 0))] (Xw 48 _ R a (fun a => ?_) (fun a => ?_))))
   · refine Xu 11 (Un 49 5 ++ [(54, .bool true), (55, .bool true)] ++ Un 56 3 ++ [(59, .bool true)]) (Xk (Cn [(0, Vl f d g), (13, Vl f d g), (14, Vi ((d).length : Int)), (15, Vi h), (59, .bool true)] (fun p => ?_)))
     refine c_true R (Cs (Xu 1 [(2, Vi 1)] (Xk (Cr (Kb (Kr ?_))))))
     obtain rfl := Sj a
     have l := Sj o
     subst l
     have a := t
     refine Kr (Kb (Kr (Rz (Vi 1) R ?_)))
     obtain rfl := Sj a
     exact ⟨R, i⟩
   refine Yg q 0 1 (Vi c.2.1) R R (Rf tfld108_1 _) tcell3 m nn R (Yg q 0 2 (Vi c.2.2) R R (Rf tfld108_2 _) tcell3 m nn R (Xu 3 [(53, Bd (c.2.1 > c.2.2)), (54, Bd (c.2.1 > c.2.2)), (55, Bd (c.2.1 > c.2.2))] (Xw 55 _ R a (fun a => ?_) (fun a => ?_))))
   · refine Xu 4 (Un 56 3 ++ [(59, .bool true)]) (Xk (Cn [(0, Vl f d g), (13, Vl f d g), (14, Vi ((d).length : Int)), (15, Vi h), (59, .bool true)] (fun p => ?_)))
     refine c_true R (Cs (Xu 1 [(2, Vi 1)] (Xk (Cr (Kb (Kr ?_))))))
     obtain rfl := Sj a
     have l := Sj o
     subst l
     have a := t
     refine Kr (Kb (Kr (Rz (Vi 1) R ?_)))
     obtain rfl := Sj a
     exact ⟨R, i⟩
   refine Yg q 0 2 (Vi c.2.2) R R (Rf tfld108_2 _) tcell3 m nn R (Xu 2 [(58, Bd (c.2.2 > 5000)), (59, Bd (c.2.2 > 5000))] (Xk (Cn [(0, Vl f d g), (13, Vl f d g), (14, Vi ((d).length : Int)), (15, Vi h), (59, Bd (c.2.2 > 5000))] (fun p => ?_))))
   refine Ci _ R a (fun a => ?_) (fun a => ?_)
   · refine Cs (Xu 1 [(2, Vi 1)] (Xk (Cr (Kb (Kr ?_)))))
     obtain rfl := Sj a
     have l := Sj o
     subst l
     have a := t
     refine Kr (Kb (Kr (Rz (Vi 1) R ?_)))
     obtain rfl := Sj a
     exact ⟨R, i⟩
   refine Ck (Kl (Kt (Cp (Xu 2 [(60, Vi (i64.wrap (h + 1))), (15, Vi (i64.wrap (h + 1)))] (Xe R ?_)))))
   obtain rfl := Sj a
   obtain ⟨n, k⟩ := E2 (Cx.s k [1]) n k
   have r := r.px []
   exact Kt ⟨(v, i64.wrap (h + 1)), ⟨R, R, R, R, T0⟩, ⟨o, i, k, r, n⟩, Ns _⟩
 refine Ce (Ke ?_)
 obtain rfl := Sj a
 have l := Sj o
 subst l
 have a := t
 refine Ke (Ki (Kt (c_norm [] T0 (fun p => ?_))))
 refine Cs (Xu 1 [(2, Vi 0)] (Xk (Cr (Rz (Vi 0) R ?_))))
 obtain rfl := Sj a
 exact ⟨R, i⟩
def resistance_between (e : Int) (b : Int) (a : Int) (f : Int) (c : Int) : Option (Int × Int) :=
((interval_Scale (i64.wrap (c - a)) (i64.wrap (c - a)) (i64.wrap (e - b)) (i64.wrap (f - b))).bind fun d =>
some (i64.wrap (a + d.1.1), i64.wrap (a + d.1.2)))
theorem resistance_between_w (j f a k e p l) (m : resistance_between j f a k e = some p) : CallVC Tryz.prog 69 [Vi j, Vi f, Vi a, Vi k, Vi e] l fun v E => v = .agg #[Vi p.1, Vi p.2] ∧ Ev [] l E := by
 refine Cw hmx Tryz.func69 R R R ?_
 have c := Ev.refl [] l
 have g := MS.one l
 have h := FR.nil l.heap.size
 refine Cs (Xj #[Vi 0, Vi 0] R (fun w F t d r => ?_))
 have g := g.box r t d
 have h := h.box c.size t
 have c := c.ext r
 refine Xk (Cs (Xu 6 [(14, Vi e), (15, Vi a), (16, Vi (i64.wrap (e - a))), (17, Vi e), (18, Vi a), (19, Vi (i64.wrap (e - a)))] (Xg (.agg #[Vi (i64.wrap (e - a)), Vi (i64.wrap (e - a))]) R (Xu 6 [(21, Vi j), (22, Vi f), (23, Vi (i64.wrap (j - f))), (24, Vi k), (25, Vi f), (26, Vi (i64.wrap (k - f)))] ?_))))
 obtain ⟨b, D, m⟩ := Bs m
 have z := interval_Scale_w (i64.wrap (e - a)) (i64.wrap (e - a)) (i64.wrap (j - f)) (i64.wrap (k - f)) _ F D
 refine Xv z R ?_
 rintro v H ⟨rfl, n⟩
 have d := n.box d nn
 have g := g.ev n
 have c := c.ext n
 refine Xu 3 [(13, .tuple #[.agg #[Vi b.1.1, Vi b.1.2], Vi b.2]), (28, .agg #[Vi b.1.1, Vi b.1.2]), (29, Vi b.2)] (Xj #[Vi 0, Vi 0] R (fun q I u i o => ?_))
 have d := o.box d nn
 have g := g.box o u i
 have h := h.box c.size u
 have c := c.ext o
 obtain ⟨J, B, x, s⟩ := Sa [Vi b.1.1, Vi b.1.2] tagg39 i R R R
 refine Xp B R ?_
 have d := s.box d (g.apart 1 0 R R R _ mem1)
 have c := c.th s h 0
 have i := x
 refine Xu 1 [(12, Vi b.2)] (Xk (Cs (Xu 1 [(30, Vi a)] (Yg q 0 0 (Vi b.1.1) R R (Rf tfld39_0 _) tcell3 i nn R (Xu 2 [(33, Vi (i64.wrap (a + b.1.1))), (34, Vi a)] (Yg q 0 1 (Vi b.1.2) R R (Rf tfld39_1 _) tcell3 i nn R (Xu 1 [(37, Vi (i64.wrap (a + b.1.2)))] ?_)))))))
 refine Xg (.agg #[Vi (i64.wrap (a + b.1.1)), Vi (i64.wrap (a + b.1.2))]) R ?_
 obtain ⟨K, C, y, A⟩ := Sa [Vi (i64.wrap (a + b.1.1)), Vi (i64.wrap (a + b.1.2))] tagg39 d R R R
 refine Xp C R ?_
 have c := c.th A h 1
 have d := y
 refine Xk (Cn [(10, Vp w 0)] (fun G => ?_))
 refine Cr (Rr (Rv [.agg #[Vi (i64.wrap (a + b.1.1)), Vi (i64.wrap (a + b.1.2))]] ⟨⟨_, R, Lv (Ra (Mo := []) 0 [Vi (i64.wrap (a + b.1.1)), Vi (i64.wrap (a + b.1.2))] tagg39 d nn R)⟩, T0⟩ ?_))
 obtain rfl := Sj m
 exact ⟨R, c⟩
def resistance_Rolling (b : List (Int × Int × Int)) (d : Int) (c : Int) : Option ((Int × Int) × Int) :=
((resistance_Valid b).bind fun g =>
(if (g != 0) = true then
some ((0, 0), g)
else
(if (decide (d < 1)) = true then
some ((0, 0), 2)
else
(if (decide (d > 192000)) = true then
some ((0, 0), 2)
else
(if (decide (c < 1)) = true then
some ((0, 0), 2)
else
(if (decide (c > 768)) = true then
some ((0, 0), 2)
else
(if c ≠ 0 then
((sort_Search ((b).length : Int) b (i64.wrap (Int.tdiv d c))).bind fun e =>
(if (e == 0) = true then
((idx b 0).bind fun h =>
((idx b 0).bind fun i =>
some ((h.2.1, i.2.2), 0)))
else
((idx b (i64.wrap (e - 1))).bind fun a =>
(if (e == ((b).length : Int)) = true then
some ((a.2.1, a.2.2), 0)
else
(if (a.1 == (i64.wrap (Int.tdiv d c))) = true then
some ((a.2.1, a.2.2), 0)
else
((idx b e).bind fun f =>
((resistance_between (i64.wrap (Int.tdiv d c)) a.1 a.2.1 f.1 f.2.1).bind fun j =>
((resistance_between (i64.wrap (Int.tdiv d c)) a.1 a.2.2 f.1 f.2.2).bind fun k =>
some ((j.1, k.2), 0)))))))))
else none)))))))
theorem resistance_Rolling_w (s t p l i L E X) (f : MS E [X]) (n : SlR (eProd eI (eProd eI eI)) E (fl [X]) s t p) (d : resistance_Rolling p l i = some L) : CallVC Tryz.prog 38 [Vl s p t, Vi l, Vi i] E fun J bo => J = .tuple #[.agg #[Vi L.1.1, Vi L.1.2], Vi L.2] ∧ Ev [] E bo := by
 refine Cw hmx Tryz.func38 R R R ?_
 have a := Ev.refl [] E
 have h := FR.nil E.heap.size
 refine Cs (Yb _ R (fun u bs ah k aK bx => ?_))
 replace k : bs.heap[u]? = some (.cells #[Vl s p t] 42 (0, 0)) := k
 refine I1 ?_
 have h := h.box a.size ah
 obtain ⟨n, f, a⟩ := E3 (Cx.b f aK ah k) n f a
 refine Xj #[Vi 0, Vi 0] R (fun y bu ak c aU => ?_)
 have h := h.box a.size ak
 obtain ⟨n, k, f, a⟩ := E4 (Cx.b f aU ak c) n k f a
 refine Xu 1 [(7, Vi 0)] (Xk (Cq (Cs (Yl _ (Vl s p t) R (Rb tcell42 k nn 0 _ R) ?_))))
 obtain ⟨I, D, d⟩ := Bs d
 obtain ⟨S, U⟩ := Kc f [] [0, 1, 2]
 have C := resistance_Valid_w s t p _ bu _ S (n.sub U) D
 refine Xv C R ?_
 rintro J bS ⟨rfl, a2⟩
 obtain ⟨n, k, c, f, a⟩ := E5 (Cx.e f a2) n k c f a
 refine Xu 1 [(8, Vi I)] (Xk (Cs (Xu 2 [(17, Vi I), (18, .bool (I != 0))] (Xk (Ci _ R d (fun d => ?_) (fun d => ?_))))))
 · refine Cs (Xg (.agg #[Vi 0, Vi 0]) R (Xu 1 [(20, Vi I)] ?_))
   obtain ⟨bU, bj, aE, a3⟩ := Sa [Vi 0, Vi 0] tagg39 c R R R
   refine Xp bj R ?_
   have a := a.th a3 h 0
   have c := aE
   refine Xu 1 [(7, Vi I)] (Xk (Cr (Kr (Rr (Rv [.agg #[Vi 0, Vi 0], Vi I] ⟨⟨_, R, Lv (Ra (Mo := []) 0 [Vi 0, Vi 0] tagg39 c nn R)⟩, R, T0⟩ ?_)))))
   obtain rfl := Sj d
   exact ⟨R, a⟩
 refine Ck (Kt (Cq (Cs (Xu 3 [(21, Vi l), (22, Bd (l < 1)), (23, Bd (l < 1))] (Xw 23 _ R d (fun d => ?_) (fun d => ?_))))))
 · refine Xu 11 [(24, U0), (25, U0), (26, .bool true), (27, .bool true), (28, U0), (29, U0), (30, .bool true), (31, .bool true), (32, U0), (33, U0), (34, .bool true)] (Xk (Cn [(1, Vi l), (2, Vi i), (3, Vp u 0), (6, Vp y 0), (34, .bool true)] (fun A => ?_)))
   refine c_true R (Cs (Xg (.agg #[Vi 0, Vi 0]) R ?_))
   obtain ⟨bz, a6, ap, aF⟩ := Sa [Vi 0, Vi 0] tagg39 c R R R
   refine Xp a6 R ?_
   have a := a.th aF h 0
   have c := ap
   refine Xu 1 [(7, Vi 2)] (Xk (Cr (Kr (Rr (Rv [.agg #[Vi 0, Vi 0], Vi 2] ⟨⟨_, R, Lv (Ra (Mo := []) 0 [Vi 0, Vi 0] tagg39 c nn R)⟩, R, T0⟩ ?_)))))
   obtain rfl := Sj d
   exact ⟨R, a⟩
 refine Xu 4 [(24, Vi l), (25, Bd (l > 192000)), (26, Bd (l > 192000)), (27, Bd (l > 192000))] (Xw 27 _ R d (fun d => ?_) (fun d => ?_))
 · refine Xu 7 [(28, U0), (29, U0), (30, .bool true), (31, .bool true), (32, U0), (33, U0), (34, .bool true)] (Xk (Cn [(1, Vi l), (2, Vi i), (3, Vp u 0), (6, Vp y 0), (34, .bool true)] (fun A => ?_)))
   refine c_true R (Cs (Xg (.agg #[Vi 0, Vi 0]) R ?_))
   obtain ⟨bA, a7, aq, aG⟩ := Sa [Vi 0, Vi 0] tagg39 c R R R
   refine Xp a7 R ?_
   have a := a.th aG h 0
   have c := aq
   refine Xu 1 [(7, Vi 2)] (Xk (Cr (Kr (Rr (Rv [.agg #[Vi 0, Vi 0], Vi 2] ⟨⟨_, R, Lv (Ra (Mo := []) 0 [Vi 0, Vi 0] tagg39 c nn R)⟩, R, T0⟩ ?_)))))
   obtain rfl := Sj d
   exact ⟨R, a⟩
 refine Xu 4 [(28, Vi i), (29, Bd (i < 1)), (30, Bd (i < 1)), (31, Bd (i < 1))] (Xw 31 _ R d (fun d => ?_) (fun d => ?_))
 · refine Xu 3 [(32, U0), (33, U0), (34, .bool true)] (Xk (Cn [(1, Vi l), (2, Vi i), (3, Vp u 0), (6, Vp y 0), (34, .bool true)] (fun A => ?_)))
   refine c_true R (Cs (Xg (.agg #[Vi 0, Vi 0]) R ?_))
   obtain ⟨bB, a8, ar, aH⟩ := Sa [Vi 0, Vi 0] tagg39 c R R R
   refine Xp a8 R ?_
   have a := a.th aH h 0
   have c := ar
   refine Xu 1 [(7, Vi 2)] (Xk (Cr (Kr (Rr (Rv [.agg #[Vi 0, Vi 0], Vi 2] ⟨⟨_, R, Lv (Ra (Mo := []) 0 [Vi 0, Vi 0] tagg39 c nn R)⟩, R, T0⟩ ?_)))))
   obtain rfl := Sj d
   exact ⟨R, a⟩
 refine Xu 3 [(32, Vi i), (33, Bd (i > 768)), (34, Bd (i > 768))] (Xk (Cn [(1, Vi l), (2, Vi i), (3, Vp u 0), (6, Vp y 0), (34, Bd (i > 768))] (fun A => ?_)))
 refine Ci _ R d (fun d => ?_) (fun d => ?_)
 · refine Cs (Xg (.agg #[Vi 0, Vi 0]) R ?_)
   obtain ⟨bC, a9, au, aI⟩ := Sa [Vi 0, Vi 0] tagg39 c R R R
   refine Xp a9 R ?_
   have a := a.th aI h 0
   have c := au
   refine Xu 1 [(7, Vi 2)] (Xk (Cr (Kr (Rr (Rv [.agg #[Vi 0, Vi 0], Vi 2] ⟨⟨_, R, Lv (Ra (Mo := []) 0 [Vi 0, Vi 0] tagg39 c nn R)⟩, R, T0⟩ ?_)))))
   obtain rfl := Sj d
   exact ⟨R, a⟩
 refine Ck (Kt (Cs (Xu 2 [(36, Vi l), (37, Vi i)] (x_binop (Vi (i64.wrap (Int.tdiv l i))) (Vi l) (Vi i) R R R R (vb_quo (Gl d)) ?_))))
 have d := Gr d
 refine Xa (z := Vi 0) R R (by kernel_rfl) (fun B bp ag m aJ bw => ?_)
 replace m : bp.heap[B]? = some (.cells #[Vi 0] 3 (0, 0)) := m
 refine I1 ?_
 have h := h.box a.size ag
 obtain ⟨n, k, c, f, a⟩ := E5 (Cx.b f aJ ag m) n k c f a
 obtain ⟨bq, ba, av, aa⟩ := Sx 0 (Vi (i64.wrap (Int.tdiv l i))) tcell3 m
 refine Xp ba R ?_
 obtain ⟨n, k, c, f⟩ := E4 (Cx.j f 0 aa) n k c f
 have a := a.th aa h 0
 have m := av
 refine Xk (Cs (Yl _ (Vl s p t) R (Rb tcell42 k nn 0 _ R) (Xz tsl42 R (x_makeFunc 68 #[] #[Vp u 0, Vp B 0] R R R R ?_))))
 obtain ⟨w, D, d⟩ := Bs d
 obtain ⟨S, U⟩ := Kc f [2, 0] [1, 3]
 have C := sort_Search_w ((p).length : Int) u s t p B (i64.wrap (Int.tdiv l i)) _ bq _ S (n.sub U) k m D
 refine Xv C R ?_
 rintro J br ⟨rfl, ab, a4, a5⟩
 obtain ⟨n, c, f⟩ := E3 (Cx.c0 f [2, 0] ab) n c f
 have an : ∀ Q ∈ fl [[u], [B]], E.heap.size ≤ Q := FR.mem (ls := [[u], [B]]) (h.pk [2, 0] _ R)
 have a := a.then ab (fun Q ao => .inr (an Q ao))
 have k := a4
 have m := a5
 refine Xu 1 [(10, Vi w)] (Xk (Cq (Cs (Xu 2 [(43, Vi w), (44, .bool (w == 0))] (Xk (Ci _ R d (fun d => ?_) (fun d => ?_)))))))
 · refine Cq (Cd [] [(0, false), (1, false), (2, false), (3, false), (4, false), (5, false), (6, false), (7, false), (8, false), (9, true), (10, false)] _ (by kernel_rfl) R ?_)
   obtain ⟨n, k, c, a⟩ := E4 (Cx.e f (Ev.drew br)) n k c a
   refine Yl _ (Vl s p t) R (Rb tcell42 k nn 0 _ R) ?_
   obtain ⟨N, bk, d⟩ := Bs d
   refine Xq (n.el tsl42) tfld108_1 tcell3 bk R (fun _ => R) (fun _ => Yl _ (Vl s p t) R (Rb tcell42 k nn 0 _ R) ?_)
   obtain ⟨O, bl, d⟩ := Bs d
   refine Xq (n.el tsl42) tfld108_2 tcell3 bl R (fun _ => R) (fun _ => Xg (.agg #[Vi N.2.1, Vi O.2.2]) R ?_)
   obtain ⟨bD, bb, aw, aL⟩ := Sa [Vi N.2.1, Vi O.2.2] tagg39 c R R R
   refine Xp bb R ?_
   have a := a.th aL h 1
   have c := aw
   refine Xu 1 [(7, Vi 0)] (Xk (Cn [(6, Vp y 0), (7, Vi 0)] (fun A => ?_)))
   refine Cr (Kr (Rr (Rv [.agg #[Vi N.2.1, Vi O.2.2], Vi 0] ⟨⟨_, R, Lv (Ra (Mo := []) 0 [Vi N.2.1, Vi O.2.2] tagg39 c nn R)⟩, R, T0⟩ ?_)))
   obtain rfl := Sj d
   exact ⟨R, a⟩
 refine Ck (Kt (Cs (Yl _ (Vl s p t) R (Rb tcell42 k nn 0 _ R) (Xu 2 [(55, Vi w), (56, Vi (i64.wrap (w - 1)))] ?_))))
 obtain ⟨g, bm, d⟩ := Bs d
 refine Xqa [Vi g.1, Vi g.2.1, Vi g.2.2] (n.el tsl42) tagg108 bm R (fun _ => R) (fun _ => Xj #[Vi 0, Vi 0, Vi 0] R (fun v bE ai o aN => ?_))
 have h := h.box a.size ai
 obtain ⟨n, k, c, m, f, a⟩ := E6 (Cx.b f aN ai o) n k c m f a
 obtain ⟨bF, bc, ax, ac⟩ := Sa [Vi g.1, Vi g.2.1, Vi g.2.2] tagg108 o R R R
 refine Xp bc R ?_
 obtain ⟨n, k, c, m, f⟩ := E5 (Cx.j f 0 ac) n k c m f
 have a := a.th ac h 0
 have o := ax
 refine Xk (Cq (Cs (Xu 1 [(59, Vi w)] (Yl _ (Vl s p t) R (Rb tcell42 k nn 0 _ R) (Xz tsl42 R (Xu 2 [(62, .bool (w == ((p).length : Int))), (63, .bool (w == ((p).length : Int)))] (Xw 63 _ R d (fun d => ?_) (fun d => ?_))))))))
 · refine Xu 5 (Un 64 4 ++ [(68, .bool true)]) (Xk (Cn [(3, Vp u 0), (6, Vp y 0), (9, Vp B 0), (10, Vi w), (11, Vp v 0), (68, .bool true)] (fun A => ?_)))
   refine c_true R (Cs (Yg v 0 1 (Vi g.2.1) R R (Rf tfld108_1 _) tcell3 o nn R (Yg v 0 2 (Vi g.2.2) R R (Rf tfld108_2 _) tcell3 o nn R (Xg (.agg #[Vi g.2.1, Vi g.2.2]) R ?_))))
   obtain ⟨bG, bd, ay, aO⟩ := Sa [Vi g.2.1, Vi g.2.2] tagg39 c R R R
   refine Xp bd R ?_
   have a := a.th aO h 2
   have c := ay
   refine Xu 1 [(7, Vi 0)] (Xk (Cr (Kr (Rr (Rv [.agg #[Vi g.2.1, Vi g.2.2], Vi 0] ⟨⟨_, R, Lv (Ra (Mo := []) 0 [Vi g.2.1, Vi g.2.2] tagg39 c nn R)⟩, R, T0⟩ ?_)))))
   obtain rfl := Sj d
   exact ⟨R, a⟩
 refine Yg v 0 0 (Vi g.1) R R (Rf tfld108_0 _) tcell3 o nn R (Yl _ (Vi (i64.wrap (Int.tdiv l i))) R (Rb tcell3 m nn 0 _ R) (Xu 2 [(67, .bool (g.1 == (i64.wrap (Int.tdiv l i)))), (68, .bool (g.1 == (i64.wrap (Int.tdiv l i))))] (Xk (Cn [(3, Vp u 0), (6, Vp y 0), (9, Vp B 0), (10, Vi w), (11, Vp v 0), (68, .bool (g.1 == (i64.wrap (Int.tdiv l i))))] (fun A => ?_)))))
 refine Ci _ R d (fun d => ?_) (fun d => ?_)
 · refine Cs (Yg v 0 1 (Vi g.2.1) R R (Rf tfld108_1 _) tcell3 o nn R (Yg v 0 2 (Vi g.2.2) R R (Rf tfld108_2 _) tcell3 o nn R (Xg (.agg #[Vi g.2.1, Vi g.2.2]) R ?_)))
   obtain ⟨bH, be, az, aQ⟩ := Sa [Vi g.2.1, Vi g.2.2] tagg39 c R R R
   refine Xp be R ?_
   have a := a.th aQ h 2
   have c := az
   refine Xu 1 [(7, Vi 0)] (Xk (Cr (Kr (Rr (Rv [.agg #[Vi g.2.1, Vi g.2.2], Vi 0] ⟨⟨_, R, Lv (Ra (Mo := []) 0 [Vi g.2.1, Vi g.2.2] tagg39 c nn R)⟩, R, T0⟩ ?_)))))
   obtain rfl := Sj d
   exact ⟨R, a⟩
 refine Ck (Kt (Cs (Yl _ (Vl s p t) R (Rb tcell42 k nn 0 _ R) (Xu 1 [(75, Vi w)] ?_))))
 obtain ⟨q, bn, d⟩ := Bs d
 refine Xqa [Vi q.1, Vi q.2.1, Vi q.2.2] (n.el tsl42) tagg108 bn R (fun _ => R) (fun _ => Xj #[Vi 0, Vi 0, Vi 0] R (fun H bI aj r aS => ?_))
 have h := h.box a.size aj
 obtain ⟨c, m, o, f, a⟩ := E5 (Cx.b f aS aj r) c m o f a
 obtain ⟨bt, bf, aA, ad⟩ := Sa [Vi q.1, Vi q.2.1, Vi q.2.2] tagg108 r R R R
 refine Xp bf R ?_
 obtain ⟨c, m, o, f⟩ := E4 (Cx.j f 0 ad) c m o f
 have a := a.th ad h 0
 have r := aA
 refine Xk (Cs (Yl _ (Vi (i64.wrap (Int.tdiv l i))) R (Rb tcell3 m nn 0 _ R) (Yg v 0 0 (Vi g.1) R R (Rf tfld108_0 _) tcell3 o nn R (Yg v 0 1 (Vi g.2.1) R R (Rf tfld108_1 _) tcell3 o nn R (Yg H 0 0 (Vi q.1) R R (Rf tfld108_0 _) tcell3 r nn R (Yf (Vp H 0) (Vp H 1) R (Rf tfld108_1 _) ?_))))))
 refine Yl _ (Vi q.2.1) R (Rb tcell3 r nn 1 _ R) ?_
 obtain ⟨F, D, d⟩ := Bs d
 have C := resistance_between_w (i64.wrap (Int.tdiv l i)) g.1 g.2.1 q.1 q.2.1 _ bt D
 refine Xv C R ?_
 rintro J bJ ⟨rfl, aX⟩
 obtain ⟨c, m, o, r, f, a⟩ := E6 (Cx.e f aX) c m o r f a
 refine Xj #[Vi 0, Vi 0] R (fun Y bK al x aY => ?_)
 have h := h.box a.size al
 obtain ⟨c, m, o, r, f, a⟩ := E6 (Cx.b f aY al x) c m o r f a
 obtain ⟨bv, bg, aB, ae⟩ := Sa [Vi F.1, Vi F.2] tagg39 x R R R
 refine Xp bg R ?_
 obtain ⟨c, m, o, r, f⟩ := E5 (Cx.j f 0 ae) c m o r f
 have a := a.th ae h 0
 have x := aB
 refine Xk (Cs (Yl _ (Vi (i64.wrap (Int.tdiv l i))) R (Rb tcell3 m nn 0 _ R) (Yg v 0 0 (Vi g.1) R R (Rf tfld108_0 _) tcell3 o nn R (Yg v 0 2 (Vi g.2.2) R R (Rf tfld108_2 _) tcell3 o nn R (Yg H 0 0 (Vi q.1) R R (Rf tfld108_0 _) tcell3 r nn R (Yf (Vp H 0) (Vp H 2) R (Rf tfld108_2 _) ?_))))))
 refine Yl _ (Vi q.2.2) R (Rb tcell3 r nn 2 _ R) ?_
 obtain ⟨G, D, d⟩ := Bs d
 have C := resistance_between_w (i64.wrap (Int.tdiv l i)) g.1 g.2.2 q.1 q.2.2 _ bv D
 refine Xv C R ?_
 rintro J bL ⟨rfl, aZ⟩
 obtain ⟨c, x, f, a⟩ := E4 (Cx.e f aZ) c x f a
 refine Xj #[Vi 0, Vi 0] R (fun Z bN am K a0 => ?_)
 have h := h.box a.size am
 obtain ⟨c, x, f, a⟩ := E4 (Cx.b f a0 am K) c x f a
 obtain ⟨bO, bh, aC, af⟩ := Sa [Vi G.1, Vi G.2] tagg39 K R R R
 refine Xp bh R ?_
 obtain ⟨c, x⟩ := E2 (Cx.j f 0 af) c x
 have a := a.th af h 0
 have K := aC
 refine Xk (Cn [(6, Vp y 0), (13, Vp Y 0), (14, Vp Z 0)] (fun A => ?_))
 refine Cs (Yg Y 0 0 (Vi F.1) R R (Rf tfld39_0 _) tcell3 x nn R (Yg Z 0 1 (Vi G.2) R R (Rf tfld39_1 _) tcell3 K nn R (Xg (.agg #[Vi F.1, Vi G.2]) R ?_)))
 obtain ⟨bQ, bi, aD, a1⟩ := Sa [Vi F.1, Vi G.2] tagg39 c R R R
 refine Xp bi R ?_
 have a := a.th a1 h 5
 have c := aD
 refine Xu 1 [(7, Vi 0)] (Xk (Cr (Rr (Rv [.agg #[Vi F.1, Vi G.2], Vi 0] ⟨⟨_, R, Lv (Ra (Mo := []) 0 [Vi F.1, Vi G.2] tagg39 c nn R)⟩, R, T0⟩ ?_))))
 obtain rfl := Sj d
 exact ⟨R, a⟩
def resistance_inside (a : Int) (b : Int) (c : Int) (d : Int) : Option Bool :=
((interval_Valid a b).bind fun e =>
(if e = true then
(if (decide (a ≥ c)) = true then
some (decide (b ≤ d))
else
some false)
else
some false))
theorem resistance_inside_w (c b f e k h) (a : resistance_inside c b f e = some k) : CallVC Tryz.prog 39 [.agg #[Vi c, Vi b], Vi f, Vi e] h fun l q => l = .bool k ∧ Ev [] h q := by
 refine Cw hmx Tryz.func39 R R R ?_
 have d := Ev.refl [] h
 refine Cs (Xo R (fun i r s g o => ?_))
 have d := d.ext o
 refine Xu 1 [(6, .bool false)] (Xk (Cs (Yl _ _ R (Ra 0 [Vi c, Vi b] tagg39 g nn R) ?_)))
 obtain ⟨m, p, a⟩ := Bs a
 have n := interval_Valid_w c b _ r p
 refine Xv n R ?_
 rintro l t ⟨rfl, j⟩
 have g := j.box g nn
 have d := d.ext j
 refine Xu 1 [(9, .bool m)] (Xw 9 m R a (fun a => ?_) (fun a => ?_))
 · refine Yg i 0 0 (Vi c) R R (Rf tfld39_0 _) tcell3 g nn R (Xu 4 [(12, Vi f), (13, Bd (c ≥ f)), (14, Bd (c ≥ f)), (15, Bd (c ≥ f))] (Xw 15 _ R a (fun a => ?_) (fun a => ?_)))
   · refine Yg i 0 1 (Vi b) R R (Rf tfld39_1 _) tcell3 g nn R (Xu 4 [(18, Vi e), (19, Bd (b ≤ e)), (20, Bd (b ≤ e)), (6, Bd (b ≤ e))] (Xk (Cr (Rz (Bd (b ≤ e)) R ?_))))
     obtain rfl := Sj a
     exact ⟨R, d⟩
   refine Xu 6 [(16, U0), (17, U0), (18, U0), (19, U0), (20, .bool false), (6, .bool false)] (Xk (Cr (Rz (.bool false) R ?_)))
   obtain rfl := Sj a
   exact ⟨R, d⟩
 refine Xu 12 [(10, U0), (11, U0), (12, U0), (13, U0), (14, .bool false), (15, .bool false), (16, U0), (17, U0), (18, U0), (19, U0), (20, .bool false), (6, .bool false)] (Xk (Cr (Rz (.bool false) R ?_)))
 obtain rfl := Sj a
 exact ⟨R, d⟩
def resistance_clip (a : Int) (b : Int) : Option (Int × Int) :=
some (if 5000 < (if 0 > a then 0 else a) then 5000 else (if 0 > a then 0 else a), if 5000 < (if 0 > b then 0 else b) then 5000 else (if 0 > b then 0 else b))
theorem resistance_clip_w (a b h f) (k : resistance_clip a b = some h) : CallVC Tryz.prog 41 [.agg #[Vi a, Vi b]] f fun r s => r = .agg #[Vi h.1, Vi h.2] ∧ Ev [] f s := by
 refine Cw hmx Tryz.func41 R R R ?_
 have c := Ev.refl [] f
 have d := FR.nil f.heap.size
 refine Cs (Xo R (fun i u o e m => ?_))
 have d := d.box c.size o
 have c := c.ext m
 refine Xj #[Vi 0, Vi 0] R (fun t v p g j => ?_)
 have e := j.box e nn
 have d := d.box c.size p
 have c := c.ext j
 refine Xk (Cs (Yg i 0 0 (Vi a) R R (Rf tfld39_0 _) tcell3 e nn R (x_max (vs := [Vi a, Vi 0]) (Vi (if 0 > a then 0 else a)) R R R (fun _ _ => R) (x_min (vs := [Vi (if 0 > a then 0 else a), Vi 5000]) (Vi (if 5000 < (if 0 > a then 0 else a) then 5000 else (if 0 > a then 0 else a))) R R R (fun _ _ => R) (Yg i 0 1 (Vi b) R R (Rf tfld39_1 _) tcell3 e nn R (x_max (vs := [Vi b, Vi 0]) (Vi (if 0 > b then 0 else b)) R R R (fun _ _ => R) (x_min (vs := [Vi (if 0 > b then 0 else b), Vi 5000]) (Vi (if 5000 < (if 0 > b then 0 else b) then 5000 else (if 0 > b then 0 else b))) R R R (fun _ _ => R) ?_)))))))
 refine Xg (.agg #[Vi (if 5000 < (if 0 > a then 0 else a) then 5000 else (if 0 > a then 0 else a)), Vi (if 5000 < (if 0 > b then 0 else b) then 5000 else (if 0 > b then 0 else b))]) R ?_
 obtain ⟨w, q, l, n⟩ := Sa [Vi (if 5000 < (if 0 > a then 0 else a) then 5000 else (if 0 > a then 0 else a)), Vi (if 5000 < (if 0 > b then 0 else b) then 5000 else (if 0 > b then 0 else b))] tagg39 g R R R
 refine Xp q R ?_
 have c := c.th n d 0
 have g := l
 refine Xk (Cr (Rr (Rv [.agg #[Vi (if 5000 < (if 0 > a then 0 else a) then 5000 else (if 0 > a then 0 else a)), Vi (if 5000 < (if 0 > b then 0 else b) then 5000 else (if 0 > b then 0 else b))]] ⟨⟨_, R, Lv (Ra (Mo := []) 0 [Vi (if 5000 < (if 0 > a then 0 else a) then 5000 else (if 0 > a then 0 else a)), Vi (if 5000 < (if 0 > b then 0 else b) then 5000 else (if 0 > b then 0 else b))] tagg39 g nn R)⟩, T0⟩ ?_)))
 obtain rfl := Sj k
 exact ⟨R, c⟩
def resistance_Class (h : List (Int × Int × Int)) (i : Int) (j : Int) (b : Int) (c : Int) (d : Int) (e : Int) : Option ((Int × Int) × Int) :=
((resistance_Rolling h i j).bind fun a =>
(if (a.2 != 0) = true then
some ((0, 0), a.2)
else
((resistance_inside b c (-40000) 40000).bind fun k =>
(if (!k) = true then
some ((0, 0), 1)
else
((resistance_inside d e 0 1000).bind fun l =>
(if (!l) = true then
some ((0, 0), 1)
else
((interval_Scale b c 3 100).bind fun f =>
((resistance_clip (i64.wrap ((i64.wrap (a.1.1 + f.1.1)) + d)) (i64.wrap ((i64.wrap (a.1.2 + f.1.2)) + e))).bind fun g =>
some ((g.1, g.2), 0)))))))))
theorem resistance_Class_w (D F C H I r s p q J u O) (d : MS u [O]) (B : SlR (eProd eI (eProd eI eI)) u (fl [O]) D F C) (h : resistance_Class C H I r s p q = some J) : CallVC Tryz.prog 11 [Vl D C F, Vi H, Vi I, .agg #[Vi r, Vi s, Vi p, Vi q]] u fun t aA => t = .tuple #[.agg #[Vi J.1.1, Vi J.1.2], Vi J.2] ∧ Ev [] u aA := by
 refine Cw hmx Tryz.func11 R R R ?_
 have a := Ev.refl [] u
 have m := FR.nil u.heap.size
 refine Cs (Xo R (fun k aJ X f al => ?_))
 have m := m.box a.size X
 obtain ⟨B, d, a⟩ := E3 (Cx.b d al X f) B d a
 refine Xj #[Vi 0, Vi 0] R (fun K aF Z c an => ?_)
 have m := m.box a.size Z
 obtain ⟨B, f, d, a⟩ := E4 (Cx.b d an Z c) B f d a
 refine Xu 1 [(9, Vi 0)] (Xk (Cs (Xu 3 [(15, Vl D C F), (16, Vi H), (17, Vi I)] ?_)))
 obtain ⟨g, o, h⟩ := Bs h
 obtain ⟨aq, az⟩ := Kc d [] [0, 1, 2]
 have n := resistance_Rolling_w D F C H I _ aF _ aq (B.sub az) o
 refine Xv n R ?_
 rintro t aQ ⟨rfl, ao⟩
 obtain ⟨f, c, d, a⟩ := E4 (Cx.e d ao) f c d a
 refine Xu 3 [(14, .tuple #[.agg #[Vi g.1.1, Vi g.1.2], Vi g.2]), (19, .agg #[Vi g.1.1, Vi g.1.2]), (20, Vi g.2)] (Xj #[Vi 0, Vi 0] R (fun E aS aa l ap => ?_))
 have m := m.box a.size aa
 obtain ⟨f, c, d, a⟩ := E4 (Cx.b d ap aa l) f c d a
 obtain ⟨aB, ar, ac, S⟩ := Sa [Vi g.1.1, Vi g.1.2] tagg39 l R R R
 refine Xp ar R ?_
 obtain ⟨f, c, d⟩ := E3 (Cx.j d 0 S) f c d
 have a := a.th S m 0
 have l := ac
 refine Xu 1 [(11, Vi g.2)] (Xk (Cq (Cs (Xu 2 [(21, Vi g.2), (22, .bool (g.2 != 0))] (Xk (Ci _ R h (fun h => ?_) (fun h => ?_)))))))
 · refine Cs (Xg (.agg #[Vi 0, Vi 0]) R (Xu 1 [(24, Vi g.2)] ?_))
   obtain ⟨aG, au, ad, ai⟩ := Sa [Vi 0, Vi 0] tagg39 c R R R
   refine Xp au R ?_
   have a := a.th ai m 1
   have c := ad
   refine Xu 1 [(9, Vi g.2)] (Xk (Cr (Kr (Rr (Rv [.agg #[Vi 0, Vi 0], Vi g.2] ⟨⟨_, R, Lv (Ra (Mo := []) 0 [Vi 0, Vi 0] tagg39 c nn R)⟩, R, T0⟩ ?_)))))
   obtain rfl := Sj h
   exact ⟨R, a⟩
 refine Ck (Kt (Cq (Cs (Yf (Vp k 0) (Vp k 0) R (Rf tfld47_0 _) (Yl _ _ R (Ra 0 [Vi r, Vi s] tagg39 f nn R) ?_)))))
 obtain ⟨ab, o, h⟩ := Bs h
 have n := resistance_inside_w r s (-40000) 40000 _ aB o
 refine Xv n R ?_
 rintro t aC ⟨rfl, x⟩
 have f := x.box f nn
 have c := x.box c nn
 have l := x.box l nn
 have d := d.ev x
 have a := a.ext x
 refine Xu 2 [(28, .bool (!ab)), (29, .bool (!ab))] (Xw 29 _ R h (fun h => ?_) (fun h => ?_))
 · refine Xu 5 (Un 30 4 ++ [(34, .bool true)]) (Xk (Cn [(7, Vp k 0), (8, Vp K 0), (10, Vp E 0), (34, .bool true)] (fun N => ?_)))
   refine c_true R (Cs (Xg (.agg #[Vi 0, Vi 0]) R ?_))
   obtain ⟨aH, av, ae, aj⟩ := Sa [Vi 0, Vi 0] tagg39 c R R R
   refine Xp av R ?_
   have a := a.th aj m 1
   have c := ae
   refine Xu 1 [(9, Vi 1)] (Xk (Cr (Kr (Rr (Rv [.agg #[Vi 0, Vi 0], Vi 1] ⟨⟨_, R, Lv (Ra (Mo := []) 0 [Vi 0, Vi 0] tagg39 c nn R)⟩, R, T0⟩ ?_)))))
   obtain rfl := Sj h
   exact ⟨R, a⟩
 refine Yf (Vp k 0) (Vp k 2) R (Rf tfld47_1 _) (Yl _ _ R (Ra 2 [Vi p, Vi q] tagg39 f nn R) ?_)
 obtain ⟨L, o, h⟩ := Bs h
 have n := resistance_inside_w p q 0 1000 _ aC o
 refine Xv n R ?_
 rintro t aD ⟨rfl, y⟩
 have f := y.box f nn
 have c := y.box c nn
 have l := y.box l nn
 have d := d.ev y
 have a := a.ext y
 refine Xu 2 [(33, .bool (!L)), (34, .bool (!L))] (Xk (Cn [(7, Vp k 0), (8, Vp K 0), (10, Vp E 0), (34, .bool (!L))] (fun N => ?_)))
 refine Ci _ R h (fun h => ?_) (fun h => ?_)
 · refine Cs (Xg (.agg #[Vi 0, Vi 0]) R ?_)
   obtain ⟨aI, aw, af, ak⟩ := Sa [Vi 0, Vi 0] tagg39 c R R R
   refine Xp aw R ?_
   have a := a.th ak m 1
   have c := af
   refine Xu 1 [(9, Vi 1)] (Xk (Cr (Kr (Rr (Rv [.agg #[Vi 0, Vi 0], Vi 1] ⟨⟨_, R, Lv (Ra (Mo := []) 0 [Vi 0, Vi 0] tagg39 c nn R)⟩, R, T0⟩ ?_)))))
   obtain rfl := Sj h
   exact ⟨R, a⟩
 refine Ck (Kt (Cs (Yf (Vp k 0) (Vp k 0) R (Rf tfld47_0 _) (Yl _ _ R (Ra 0 [Vi r, Vi s] tagg39 f nn R) ?_))))
 obtain ⟨i, o, h⟩ := Bs h
 have n := interval_Scale_w r s 3 100 _ aD o
 refine Xv n R ?_
 rintro t aK ⟨rfl, z⟩
 have f := z.box f nn
 have c := z.box c nn
 have l := z.box l nn
 have d := d.ev z
 have a := a.ext z
 refine Xu 3 [(36, .tuple #[.agg #[Vi i.1.1, Vi i.1.2], Vi i.2]), (40, .agg #[Vi i.1.1, Vi i.1.2]), (41, Vi i.2)] (Xj #[Vi 0, Vi 0] R (fun Q aL Y w A => ?_))
 have f := A.box f nn
 have c := A.box c nn
 have l := A.box l nn
 have d := d.box A Y w
 have m := m.box a.size Y
 have a := a.ext A
 obtain ⟨aE, ax, ag, G⟩ := Sa [Vi i.1.1, Vi i.1.2] tagg39 w R R R
 refine Xp ax R ?_
 have f := G.box f (d.apart 3 0 R R R _ mem1)
 have c := G.box c (d.apart 2 0 R R R _ mem1)
 have l := G.box l (d.apart 1 0 R R R _ mem1)
 have a := a.th G m 0
 have w := ag
 refine Xu 1 [(13, Vi i.2)] (Xk (Cs (Yg E 0 0 (Vi g.1.1) R R (Rf tfld39_0 _) tcell3 l nn R (Yg Q 0 0 (Vi i.1.1) R R (Rf tfld39_0 _) tcell3 w nn R (Xu 1 [(46, Vi (i64.wrap (g.1.1 + i.1.1)))] (Yf (Vp k 0) (Vp k 2) R (Rf tfld47_1 _) (Yf (Vp k 2) (Vp k 2) R (Rf tfld39_0 _) ?_)))))))
 refine Yl _ (Vi p) R (Rb tcell3 f nn 2 _ R) (Xu 1 [(50, Vi (i64.wrap ((i64.wrap (g.1.1 + i.1.1)) + p)))] (Yg E 0 1 (Vi g.1.2) R R (Rf tfld39_1 _) tcell3 l nn R (Yg Q 0 1 (Vi i.1.2) R R (Rf tfld39_1 _) tcell3 w nn R (Xu 1 [(55, Vi (i64.wrap (g.1.2 + i.1.2)))] (Yf (Vp k 0) (Vp k 2) R (Rf tfld47_1 _) (Yg k 2 3 (Vi q) R R (Rf tfld39_1 _) tcell3 f nn R ?_))))))
 refine Xu 1 [(59, Vi (i64.wrap ((i64.wrap (g.1.2 + i.1.2)) + q)))] (Xg (.agg #[Vi (i64.wrap ((i64.wrap (g.1.1 + i.1.1)) + p)), Vi (i64.wrap ((i64.wrap (g.1.2 + i.1.2)) + q))]) R ?_)
 obtain ⟨v, o, h⟩ := Bs h
 have n := resistance_clip_w (i64.wrap ((i64.wrap (g.1.1 + i.1.1)) + p)) (i64.wrap ((i64.wrap (g.1.2 + i.1.2)) + q)) _ aE o
 refine Xv n R ?_
 rintro t aN ⟨rfl, U⟩
 have c := U.box c nn
 have a := a.ext U
 obtain ⟨aO, ay, ah, am⟩ := Sa [Vi v.1, Vi v.2] tagg39 c R R R
 refine Xp ay R ?_
 have a := a.th am m 2
 have c := ah
 refine Xu 1 [(9, Vi 0)] (Xk (Cn [(8, Vp K 0), (9, Vi 0)] (fun N => ?_)))
 refine Cr (Rr (Rv [.agg #[Vi v.1, Vi v.2], Vi 0] ⟨⟨_, R, Lv (Ra (Mo := []) 0 [Vi v.1, Vi v.2] tagg39 c nn R)⟩, R, T0⟩ ?_))
 obtain rfl := Sj h
 exact ⟨R, a⟩
def resistance_Spread_L8 (f : Int) (g : Int) (e : List (Int × Int × Int × Int × Int)) (h : (List (Int × Int)) × Int) : Option (Step ((List (Int × Int)) × Int) (Unit ⊕ (List (Int × Int)))) :=
match h with
| (c, d) =>
(if (decide (d < ((e).length : Int))) = true then
((idx e d).bind fun a =>
(if (decide (a.2.2.2.1 < 0)) = true then
some (.done (.inl ()))
else
(if (decide (a.2.2.2.1 > 5000)) = true then
some (.done (.inl ()))
else
((resistance_clip (i64.wrap (f + a.2.2.2.1)) (i64.wrap (g + a.2.2.2.1))).bind fun b =>
(if c.length + ([(b.1, b.2)] : List (Int × Int)).length ≤ 4294967296 then
some (.next ((c ++ ([(b.1, b.2)] : List (Int × Int))), i64.wrap (d + 1)))
else none)))))
else
some (.done (.inr c)))
def resistance_Spread (a : Int) (b : Int) (c : List (Int × Int × Int × Int × Int)) : Option ((List (Int × Int)) × Int) :=
((interval_Valid a b).bind fun f =>
(if (!f) = true then
some ([], 1)
else
(if (decide (((c).length : Int) > 128)) = true then
some ([], 3)
else
((loop (resistance_Spread_L8 a b c) (([] : List (Int × Int)), 0)).bind fun d => match d with
| (.inl _) => some ([], 2)
| (.inr e) => some (e, 0)))))
theorem resistance_Spread_w (w x D E m O B q) (c : MS B [q]) (f : SlR (eProd eI (eIt4)) B (fl [q]) D E m) (a : resistance_Spread w x m = some O) : CallVC Tryz.prog 16 [.agg #[Vi w, Vi x], Vl D m E] B fun ac C => ∃ H ae, ac = .tuple #[Vl H O.1 ae, Vi O.2] ∧ Ev [] B C ∧ MS C [Bk H, q] ∧ FR B.heap.size [Bk H] ∧ OwnS (eProd eI eI) 39 C (fl [Bk H, q]) H ae O.1 := by
 refine Cw hmx Tryz.func16 R R R ?_
 have d := Ev.refl [] B
 have h := FR.nil B.heap.size
 refine Cs (Xo R (fun r aF aj i ap => ?_))
 have h := h.box d.size aj
 obtain ⟨f, c, d⟩ := E3 (Cx.b c ap aj i) f c d
 refine Xu 2 [(4, Z0), (5, Vi 0)] (Xk (Cq (Cs (Yl _ _ R (Ra 0 [Vi w, Vi x] tagg39 i nn R) ?_))))
 obtain ⟨aH, ab, a⟩ := Bs a
 have Y := interval_Valid_w w x _ aF ab
 refine Xv Y R ?_
 rintro ac aG ⟨rfl, ar⟩
 obtain ⟨f, i, c, d⟩ := E4 (Cx.e c ar) f i c d
 refine Xu 1 [(11, .bool (!aH))] (Xk (Ci _ R a (fun a => ?_) (fun a => ?_)))
 · refine Cs (Xu 2 [(4, Z0), (5, Vi 1)] (Xk (Cr (Kr (Rr (Rv [Z0, Vi 1] ⟨R, R, T0⟩ ?_))))))
   obtain rfl := Sj a
   have A := c.pick [none, some 1] [Bk none, q] R
   have z := h.pick [none] [Bk none] R
   exact ⟨none, 0, R, d, A, z, OwnS.nil _ _ _ _⟩
 refine Ck (Kt (Cq (Cs (Xu 1 [(12, Vl D m E)] (Xz tsl35 R (Xu 1 [(14, Bd (((m).length : Int) > 128))] (Xk (Ci _ R a (fun a => ?_) (fun a => ?_)))))))))
 · refine Cs (Xu 2 [(4, Z0), (5, Vi 3)] (Xk (Cr (Kr (Rr (Rv [Z0, Vi 3] ⟨R, R, T0⟩ ?_))))))
   obtain rfl := Sj a
   have A := c.pick [none, some 1] [Bk none, q] R
   have z := h.pick [none] [Bk none] R
   exact ⟨none, 0, R, d, A, z, OwnS.nil _ _ _ _⟩
 refine Ck (Kt (Cs (Xu 1 [(6, Z0)] (Xk (Cq (Cs (Xu 1 [(15, Vl D m E)] (Xz tsl35 R (Xu 1 [(17, Vi 0)] ?_)))))))))
 refine Xk (Cb ?_)
 obtain ⟨f, i, c⟩ := E3 (Cx.n c) f i c
 have h := h.pn
 have aa := OwnS.nil (eProd eI eI) 39 aG (fl [Bk none, [r], q])
 obtain ⟨aa, f, c⟩ := E3 (Cx.s c [1, 0, 2]) aa f c
 have h := h.px [1, 0]
 obtain ⟨ak, Z, X⟩ := Bs a
 obtain ⟨K, Z⟩ := Lo Z
 refine Cl (Lr hmx (σ := Nat × (List (Int × Int)) × Int × Option Addr × Nat) (fun L => match L with | (_, o, v, k, t) => [(2, Vp r 0), (6, Vl k o t), (15, Vl D m E), (16, Vi ((m).length : Int)), (17, Vi v)]) (fun L C => match L with | (aD, o, v, k, t) => loopN (resistance_Spread_L8 w x m) aD (o, v) = some ak ∧ Ev [] B C ∧ (fun ad => MS C ad ∧ FR B.heap.size [[r], Bk k] ∧ C.heap[r]? = some (.cells #[Vi w, Vi x] 39 (0, 0)) ∧ OwnS (eProd eI eI) 39 C (fl ad) k t o ∧ SlR (eProd eI (eIt4)) C (fl ad) D E m) [[r], Bk k, q]) (fun L => L.1) (K, ([] : List (Int × Int)), 0, none, 0) ⟨R, R, R, R, R, T0⟩ ⟨Z, d, c, h, i, aa, f⟩ ?_)
 rintro ⟨K, o, v, k, t⟩ Q aS ⟨G, d, c, h, i, p, f⟩
 rcases K with _ | K
 · exact (Lz G).elim
 obtain ⟨aK, a, G⟩ := Bs G
 refine Cs (Xu 1 [(18, Bd (v < ((m).length : Int)))] (Xk (Cn [(2, Vp r 0), (6, Vl k o t), (15, Vl D m E), (16, Vi ((m).length : Int)), (17, Vi v), (18, Bd (v < ((m).length : Int)))] (fun Q => ?_))))
 refine Cq (Ci _ R a (fun a => ?_) (fun a => ?_))
 · refine Ck (Kt (Cq (Cb (Cs ?_))))
   obtain ⟨g, aC, a⟩ := Bs a
   refine Xqa [Vi g.1, Vi g.2.1, Vi g.2.2.1, Vi g.2.2.2.1, Vi g.2.2.2.2] (f.el tsl35) tagg102 aC R (fun _ => R) (fun _ => Xj #[Vi 0, Vi 0, Vi 0, Vi 0, Vi 0] R (fun N aL ai F an => ?_))
   have h := h.box d.size ai
   obtain ⟨i, p, f, c, d⟩ := E5 (Cx.b c an ai F) i p f c d
   obtain ⟨aE, ax, al, af⟩ := Sa [Vi g.1, Vi g.2.1, Vi g.2.2.1, Vi g.2.2.2.1, Vi g.2.2.2.2] tagg102 F R R R
   refine Xp ax R ?_
   obtain ⟨i, p, f, c⟩ := E4 (Cx.j c 0 af) i p f c
   have d := d.th af h 0
   have F := al
   refine Xk (Cq (Cs (Yg N 0 3 (Vi g.2.2.2.1) R R (Rf tfld102_3 _) tcell3 F nn R (Xu 2 [(23, Bd (g.2.2.2.1 < 0)), (24, Bd (g.2.2.2.1 < 0))] (Xw 24 _ R a (fun a => ?_) (fun a => ?_))))))
   · refine Xu 4 [(25, U0), (26, U0), (27, U0), (28, .bool true)] (Xk (c_true R (Cs (Xu 2 [(4, Z0), (5, Vi 2)] (Xk (Cr (Kr (Kb (Kr ?_)))))))))
     obtain rfl := Sj a
     have J := Sj G
     subst J
     have a := X
     refine Kr (Kb (Kr (Rr (Rv [Z0, Vi 2] ⟨R, R, T0⟩ ?_))))
     obtain rfl := Sj a
     have A := c.pick [none, some 3] [Bk none, q] R
     have z := h.pick [none] [Bk none] R
     exact ⟨none, 0, R, d, A, z, OwnS.nil _ _ _ _⟩
   refine Yg N 0 3 (Vi g.2.2.2.1) R R (Rf tfld102_3 _) tcell3 F nn R (Xu 2 [(27, Bd (g.2.2.2.1 > 5000)), (28, Bd (g.2.2.2.1 > 5000))] (Xk (Ci _ R a (fun a => ?_) (fun a => ?_))))
   · refine Cs (Xu 2 [(4, Z0), (5, Vi 2)] (Xk (Cr (Kr (Kb (Kr ?_))))))
     obtain rfl := Sj a
     have J := Sj G
     subst J
     have a := X
     refine Kr (Kb (Kr (Rr (Rv [Z0, Vi 2] ⟨R, R, T0⟩ ?_))))
     obtain rfl := Sj a
     have A := c.pick [none, some 3] [Bk none, q] R
     have z := h.pick [none] [Bk none] R
     exact ⟨none, 0, R, d, A, z, OwnS.nil _ _ _ _⟩
   refine Ck (Kt (Cp (Xu 1 [(29, Vl k o t)] (Yg r 0 0 (Vi w) R R (Rf tfld39_0 _) tcell3 i nn R (Yg N 0 3 (Vi g.2.2.2.1) R R (Rf tfld102_3 _) tcell3 F nn R (Xu 1 [(34, Vi (i64.wrap (w + g.2.2.2.1)))] (Yf (Vp r 0) (Vp r 1) R (Rf tfld39_1 _) ?_)))))))
   refine Yl _ (Vi x) R (Rb tcell3 i nn 1 _ R) (Yg N 0 3 (Vi g.2.2.2.1) R R (Rf tfld102_3 _) tcell3 F nn R (Xu 1 [(39, Vi (i64.wrap (x + g.2.2.2.1)))] (Xg (.agg #[Vi (i64.wrap (w + g.2.2.2.1)), Vi (i64.wrap (x + g.2.2.2.1))]) R ?_)))
   obtain ⟨y, ab, a⟩ := Bs a
   have Y := resistance_clip_w (i64.wrap (w + g.2.2.2.1)) (i64.wrap (x + g.2.2.2.1)) _ aE ab
   refine Xv Y R ?_
   rintro ac aN ⟨rfl, ao⟩
   obtain ⟨i, p, f, c, d⟩ := E5 (Cx.e c ao) i p f c d
   refine Xh #[Vi y.1, Vi y.2] 39 R (fun aI aO aw am aq => ?_)
   have I := Cx.e c aq
   obtain ⟨i, p, f, c, d⟩ := E5 I i p f c d
   have az := I.l (e := (eProd eI eI)) aw am 1 [(y.1, y.2)]
   have av := Gl a
   have a := Gr a
   obtain ⟨S, U, aQ, ay, ag, ah, aJ, aB⟩ := own_appendN tel49 49 p (Mf 2 R) az av
   refine Xx R (Rn ay) ?_
   have I := Cx.u c 2 ag ah
   obtain ⟨i, f, c⟩ := E3 I i f c
   have au := h.ux 2 d ah
   have d := d.th ag h 2
   have h := au
   have p := aB _ I.st.new
   refine Xu 1 [(6, Vl S ((o ++ ([(y.1, y.2)] : List (Int × Int)))) U)] (Xe R (Kl (Kt (Cn [(2, Vp r 0), (6, Vl S ((o ++ ([(y.1, y.2)] : List (Int × Int)))) U), (15, Vl D m E), (16, Vi ((m).length : Int)), (17, Vi v)] (fun Q => ?_)))))
   refine Cp (Xu 2 [(44, Vi (i64.wrap (v + 1))), (17, Vi (i64.wrap (v + 1)))] (Xe R ?_))
   obtain rfl := Sj a
   obtain ⟨p, f, c⟩ := E3 (Cx.s c [1, 2, 3]) p f c
   have h := h.px [1, 2]
   exact Kt ⟨(K, (o ++ ([(y.1, y.2)] : List (Int × Int))), i64.wrap (v + 1), S, U), ⟨R, R, R, R, R, T0⟩, ⟨G, d, c, h, i, p, f⟩, Ns _⟩
 refine Ce (Ke ?_)
 obtain rfl := Sj a
 have J := Sj G
 subst J
 have a := X
 refine Ke (Ki (Kt (Cn [(6, Vl k o t)] (fun Q => ?_))))
 refine Cs (Xu 3 [(45, Vl k o t), (4, Vl k o t), (5, Vi 0)] (Xk (Cr (Rr (Rv [Vl k o t, Vi 0] ⟨R, R, T0⟩ ?_)))))
 obtain rfl := Sj a
 have A := c.pk [1, 2] [Bk k, q] R
 have aA := Pk (ls := [[r], Bk k, q]) [1, 2] [Bk k, q] R
 have z := h.pk [1] [Bk k] R
 exact ⟨k, t, R, d, A, z, p.sub aA⟩
end Go.Proofs.YtlgdhajakblkaaaGreatDoor
