
/- Walks, printed by program: each function returns what the partial function of the same name returns. Conditions: those of each theorem. -/
import Derived.Test.YtlgdhajakblkaaaGreatDoorGT
set_option linter.unusedVariables false
set_option linter.unusedSimpArgs false
set_option maxRecDepth 4000
namespace Go.Proofs.YtlgdhajakblkaaaGreatDoor
open Go Go.V Go.Proofs Go.IntKind
def interval_inside (a : Int) : Option Bool :=
(if (decide (a ≥ (-1000000000000))) = true then
some (decide (a ≤ 1000000000000))
else
some false)
theorem interval_inside_w (a e c) (b : interval_inside a = some e) : CallVC Tryz.prog 73 [Vi a] c fun f g => f = .bool e ∧ Ev [] c g := by
 refine Cw hmx Tryz.func73 R R R ?_
 have d := Ev.refl [] c
 refine Cs (Xu 1 [(2, .bool false)] (Xk (Cs (Xu 3 [(3, Vi a), (4, Bd (a ≥ (-1000000000000))), (5, Bd (a ≥ (-1000000000000)))] (Xw 5 _ R b (fun b => ?_) (fun b => ?_))))))
 · refine Xu 4 [(6, Vi a), (7, Bd (a ≤ 1000000000000)), (8, Bd (a ≤ 1000000000000)), (2, Bd (a ≤ 1000000000000))] (Xk (Cr (Rz (Bd (a ≤ 1000000000000)) R ?_)))
   obtain rfl := Sj b
   exact ⟨R, d⟩
 refine Xu 4 [(6, U0), (7, U0), (8, .bool false), (2, .bool false)] (Xk (Cr (Rz (.bool false) R ?_)))
 obtain rfl := Sj b
 exact ⟨R, d⟩
def interval_Valid (a : Int) (b : Int) : Option Bool :=
(if (decide (a ≤ b)) = true then
((interval_inside a).bind fun c =>
(if c = true then
((interval_inside b).bind fun d =>
some d)
else
some false))
else
some false)
theorem interval_Valid_w (c d n j) (a : interval_Valid c d = some n) : CallVC Tryz.prog 42 [.agg #[Vi c, Vi d]] j fun i q => i = .bool n ∧ Ev [] j q := by
 refine Cw hmx Tryz.func42 R R R ?_
 have b := Ev.refl [] j
 refine Cs (Xo R (fun f r t e o => ?_))
 have b := b.ext o
 refine Xu 1 [(2, .bool false)] (Xk (Cs (Yg f 0 0 (Vi c) R R (Rf tfld39_0 _) tcell3 e nn R (Yg f 0 1 (Vi d) R R (Rf tfld39_1 _) tcell3 e nn R (Xu 2 [(7, Bd (c ≤ d)), (8, Bd (c ≤ d))] (Xw 8 _ R a (fun a => ?_) (fun a => ?_)))))))
 · refine Yg f 0 0 (Vi c) R R (Rf tfld39_0 _) tcell3 e nn R ?_
   obtain ⟨k, h, a⟩ := Bs a
   have g := interval_inside_w c _ r h
   refine Xv g R ?_
   rintro i s ⟨rfl, m⟩
   have e := m.box e nn
   have b := b.ext m
   refine Xu 2 [(12, .bool k), (13, .bool k)] (Xw 13 k R a (fun a => ?_) (fun a => ?_))
   · refine Yg f 0 1 (Vi d) R R (Rf tfld39_1 _) tcell3 e nn R ?_
     obtain ⟨l, h, a⟩ := Bs a
     have g := interval_inside_w d _ s h
     refine Xv g R ?_
     rintro i u ⟨rfl, p⟩
     have b := b.ext p
     refine Xu 2 [(17, .bool l), (2, .bool l)] (Xk (Cr (Rz (.bool l) R ?_)))
     obtain rfl := Sj a
     exact ⟨R, b⟩
   refine Xu 5 [(14, U0), (15, U0), (16, U0), (17, .bool false), (2, .bool false)] (Xk (Cr (Rz (.bool false) R ?_)))
   obtain rfl := Sj a
   exact ⟨R, b⟩
 refine Xu 10 [(9, U0), (10, U0), (11, U0), (12, .bool false), (13, .bool false), (14, U0), (15, U0), (16, U0), (17, .bool false), (2, .bool false)] (Xk (Cr (Rz (.bool false) R ?_)))
 obtain rfl := Sj a
 exact ⟨R, b⟩
def interval_down (b : Int) (a : Int) : Option Int :=
(if a ≠ 0 then
(if a ≠ 0 then
(if ((Int.tmod b a) != 0) = true then
(if ((decide ((Int.tmod b a) < 0)) != (decide (a < 0))) = true then
some (i64.wrap ((i64.wrap (Int.tdiv b a)) - 1))
else
some (i64.wrap (Int.tdiv b a)))
else
some (i64.wrap (Int.tdiv b a)))
else none)
else none)
theorem interval_down_w (b a f e) (c : interval_down b a = some f) : CallVC Tryz.prog 71 [Vi b, Vi a] e fun h i => h = Vi f ∧ Ev [] e i := by
 refine Cw hmx Tryz.func71 R R R ?_
 have d := Ev.refl [] e
 refine Cs (Xu 1 [(4, Vi 0)] (Xk (Cq (Cd [] [(0, false), (1, false), (2, false), (3, false), (4, false), (5, false), (6, false), (7, false)] _ (by kernel_rfl) R ?_))))
 have d := d.ext (Ev.drew e)
 refine Xu 2 [(7, Vi b), (8, Vi a)] (x_binop (Vi (i64.wrap (Int.tdiv b a))) (Vi b) (Vi a) R R R R (vb_quo (Gl c)) ?_)
 have c := Gr c
 refine Xu 2 [(10, Vi b), (11, Vi a)] (x_binop (Vi (Int.tmod b a)) (Vi b) (Vi a) R R R R (vb_rem (Gl c)) ?_)
 have c := Gr c
 refine Xu 2 [(5, Vi (i64.wrap (Int.tdiv b a))), (6, Vi (Int.tmod b a))] (Xk (Cq (Cs (Xu 3 [(13, Vi (Int.tmod b a)), (14, .bool ((Int.tmod b a) != 0)), (15, .bool ((Int.tmod b a) != 0))] (Xw 15 _ R c (fun c => ?_) (fun c => ?_))))))
 · refine Xu 4 [(16, Vi (Int.tmod b a)), (17, Bd ((Int.tmod b a) < 0)), (18, Vi a), (19, Bd (a < 0))] (x_binop (.bool ((decide ((Int.tmod b a) < 0)) != (decide (a < 0)))) (Bd ((Int.tmod b a) < 0)) (Bd (a < 0)) R R R R (vb_boolneq tbool4) (Xu 1 [(21, .bool ((decide ((Int.tmod b a) < 0)) != (decide (a < 0))))] (Xk (Ci _ R c (fun c => ?_) (fun c => ?_)))))
   · refine Cp (Xu 3 [(22, Vi (i64.wrap (Int.tdiv b a))), (23, Vi (i64.wrap ((i64.wrap (Int.tdiv b a)) - 1))), (5, Vi (i64.wrap ((i64.wrap (Int.tdiv b a)) - 1)))] (Xk (Cn [(5, Vi (i64.wrap ((i64.wrap (Int.tdiv b a)) - 1)))] (fun g => ?_))))
     refine Cs (Xu 2 [(24, Vi (i64.wrap ((i64.wrap (Int.tdiv b a)) - 1))), (4, Vi (i64.wrap ((i64.wrap (Int.tdiv b a)) - 1)))] (Xk (Cr (Rz (Vi (i64.wrap ((i64.wrap (Int.tdiv b a)) - 1))) R ?_))))
     obtain rfl := Sj c
     exact ⟨R, d⟩
   refine Ck (Kt (Cs (Xu 2 [(24, Vi (i64.wrap (Int.tdiv b a))), (4, Vi (i64.wrap (Int.tdiv b a)))] (Xk (Cn [(4, Vi (i64.wrap (Int.tdiv b a)))] (fun g => ?_))))))
   refine Cr (Rz (Vi (i64.wrap (Int.tdiv b a))) R ?_)
   obtain rfl := Sj c
   exact ⟨R, d⟩
 refine Xu 6 [(16, U0), (17, U0), (18, U0), (19, U0), (20, U0), (21, .bool false)] (Xk (c_false R (Ck (Kt (Cs (Xu 2 [(24, Vi (i64.wrap (Int.tdiv b a))), (4, Vi (i64.wrap (Int.tdiv b a)))] (Xk (Cr (Rz (Vi (i64.wrap (Int.tdiv b a))) R ?_)))))))))
 obtain rfl := Sj c
 exact ⟨R, d⟩
def interval_up (b : Int) (a : Int) : Option Int :=
(if a ≠ 0 then
(if a ≠ 0 then
(if ((Int.tmod b a) != 0) = true then
(if ((decide ((Int.tmod b a) < 0)) == (decide (a < 0))) = true then
some (i64.wrap ((i64.wrap (Int.tdiv b a)) + 1))
else
some (i64.wrap (Int.tdiv b a)))
else
some (i64.wrap (Int.tdiv b a)))
else none)
else none)
theorem interval_up_w (b a f e) (c : interval_up b a = some f) : CallVC Tryz.prog 72 [Vi b, Vi a] e fun h i => h = Vi f ∧ Ev [] e i := by
 refine Cw hmx Tryz.func72 R R R ?_
 have d := Ev.refl [] e
 refine Cs (Xu 1 [(4, Vi 0)] (Xk (Cq (Cd [] [(0, false), (1, false), (2, false), (3, false), (4, false), (5, false), (6, false), (7, false)] _ (by kernel_rfl) R ?_))))
 have d := d.ext (Ev.drew e)
 refine Xu 2 [(7, Vi b), (8, Vi a)] (x_binop (Vi (i64.wrap (Int.tdiv b a))) (Vi b) (Vi a) R R R R (vb_quo (Gl c)) ?_)
 have c := Gr c
 refine Xu 2 [(10, Vi b), (11, Vi a)] (x_binop (Vi (Int.tmod b a)) (Vi b) (Vi a) R R R R (vb_rem (Gl c)) ?_)
 have c := Gr c
 refine Xu 2 [(5, Vi (i64.wrap (Int.tdiv b a))), (6, Vi (Int.tmod b a))] (Xk (Cq (Cs (Xu 3 [(13, Vi (Int.tmod b a)), (14, .bool ((Int.tmod b a) != 0)), (15, .bool ((Int.tmod b a) != 0))] (Xw 15 _ R c (fun c => ?_) (fun c => ?_))))))
 · refine Xu 4 [(16, Vi (Int.tmod b a)), (17, Bd ((Int.tmod b a) < 0)), (18, Vi a), (19, Bd (a < 0))] (x_binop (.bool ((decide ((Int.tmod b a) < 0)) == (decide (a < 0)))) (Bd ((Int.tmod b a) < 0)) (Bd (a < 0)) R R R R (vb_booleql tbool4) (Xu 1 [(21, .bool ((decide ((Int.tmod b a) < 0)) == (decide (a < 0))))] (Xk (Ci _ R c (fun c => ?_) (fun c => ?_)))))
   · refine Cp (Xu 3 [(22, Vi (i64.wrap (Int.tdiv b a))), (23, Vi (i64.wrap ((i64.wrap (Int.tdiv b a)) + 1))), (5, Vi (i64.wrap ((i64.wrap (Int.tdiv b a)) + 1)))] (Xk (Cn [(5, Vi (i64.wrap ((i64.wrap (Int.tdiv b a)) + 1)))] (fun g => ?_))))
     refine Cs (Xu 2 [(24, Vi (i64.wrap ((i64.wrap (Int.tdiv b a)) + 1))), (4, Vi (i64.wrap ((i64.wrap (Int.tdiv b a)) + 1)))] (Xk (Cr (Rz (Vi (i64.wrap ((i64.wrap (Int.tdiv b a)) + 1))) R ?_))))
     obtain rfl := Sj c
     exact ⟨R, d⟩
   refine Ck (Kt (Cs (Xu 2 [(24, Vi (i64.wrap (Int.tdiv b a))), (4, Vi (i64.wrap (Int.tdiv b a)))] (Xk (Cn [(4, Vi (i64.wrap (Int.tdiv b a)))] (fun g => ?_))))))
   refine Cr (Rz (Vi (i64.wrap (Int.tdiv b a))) R ?_)
   obtain rfl := Sj c
   exact ⟨R, d⟩
 refine Xu 6 [(16, U0), (17, U0), (18, U0), (19, U0), (20, U0), (21, .bool false)] (Xk (c_false R (Ck (Kt (Cs (Xu 2 [(24, Vi (i64.wrap (Int.tdiv b a))), (4, Vi (i64.wrap (Int.tdiv b a)))] (Xk (Cr (Rz (Vi (i64.wrap (Int.tdiv b a))) R ?_)))))))))
 obtain rfl := Sj c
 exact ⟨R, d⟩
def interval_result (a : Int) (b : Int) : Option ((Int × Int) × Int) :=
((interval_inside a).bind fun c =>
(if (!c) = true then
some ((0, 0), 4)
else
((interval_inside b).bind fun d =>
(if (!d) = true then
some ((0, 0), 4)
else
some ((a, b), 0)))))
theorem interval_result_w (d e g h) (b : interval_result d e = some g) : CallVC Tryz.prog 70 [Vi d, Vi e] h fun k A => k = .tuple #[.agg #[Vi g.1.1, Vi g.1.2], Vi g.2] ∧ Ev [] h A := by
 refine Cw hmx Tryz.func70 R R R ?_
 have a := Ev.refl [] h
 have f := FR.nil h.heap.size
 refine Cs (Xj #[Vi 0, Vi 0] R (fun D B w c s => ?_))
 have f := f.box a.size w
 have a := a.ext s
 refine Xu 1 [(5, Vi 0)] (Xk (Cq (Cs (Xu 1 [(6, Vi d)] ?_))))
 obtain ⟨n, j, b⟩ := Bs b
 have i := interval_inside_w d _ B j
 refine Xv i R ?_
 rintro k C ⟨rfl, l⟩
 have c := l.box c nn
 have a := a.ext l
 refine Xu 2 [(8, .bool (!n)), (9, .bool (!n))] (Xw 9 _ R b (fun b => ?_) (fun b => ?_))
 · refine Xu 4 [(10, U0), (11, U0), (12, U0), (13, .bool true)] (Xk (c_true R (Cs (Xg (.agg #[Vi 0, Vi 0]) R ?_))))
   obtain ⟨E, x, p, t⟩ := Sa [Vi 0, Vi 0] tagg39 c R R R
   refine Xp x R ?_
   have a := a.th t f 0
   have c := p
   refine Xu 1 [(5, Vi 4)] (Xk (Cr (Kr (Rr (Rv [.agg #[Vi 0, Vi 0], Vi 4] ⟨⟨_, R, Lv (Ra (Mo := []) 0 [Vi 0, Vi 0] tagg39 c nn R)⟩, R, T0⟩ ?_)))))
   obtain rfl := Sj b
   exact ⟨R, a⟩
 refine Xu 1 [(10, Vi e)] ?_
 obtain ⟨o, j, b⟩ := Bs b
 have i := interval_inside_w e _ C j
 refine Xv i R ?_
 rintro k F ⟨rfl, m⟩
 have c := m.box c nn
 have a := a.ext m
 refine Xu 2 [(12, .bool (!o)), (13, .bool (!o))] (Xk (Ci _ R b (fun b => ?_) (fun b => ?_)))
 · refine Cs (Xg (.agg #[Vi 0, Vi 0]) R ?_)
   obtain ⟨G, y, q, u⟩ := Sa [Vi 0, Vi 0] tagg39 c R R R
   refine Xp y R ?_
   have a := a.th u f 0
   have c := q
   refine Xu 1 [(5, Vi 4)] (Xk (Cr (Kr (Rr (Rv [.agg #[Vi 0, Vi 0], Vi 4] ⟨⟨_, R, Lv (Ra (Mo := []) 0 [Vi 0, Vi 0] tagg39 c nn R)⟩, R, T0⟩ ?_)))))
   obtain rfl := Sj b
   exact ⟨R, a⟩
 refine Ck (Kt (Cs (Xu 2 [(15, Vi d), (16, Vi e)] (Xg (.agg #[Vi d, Vi e]) R ?_))))
 obtain ⟨H, z, r, v⟩ := Sa [Vi d, Vi e] tagg39 c R R R
 refine Xp z R ?_
 have a := a.th v f 0
 have c := r
 refine Xu 1 [(5, Vi 0)] (Xk (Cr (Rr (Rv [.agg #[Vi d, Vi e], Vi 0] ⟨⟨_, R, Lv (Ra (Mo := []) 0 [Vi d, Vi e] tagg39 c nn R)⟩, R, T0⟩ ?_))))
 obtain rfl := Sj b
 exact ⟨R, a⟩
def interval_Scale_J12 (b : Int) (c : Int) (d : Int) : Option ((Int × Int) × Int) :=
((interval_down c b).bind fun e =>
((interval_up d b).bind fun f =>
((interval_result e f).bind fun a =>
some ((a.1.1, a.1.2), a.2))))
def interval_Scale_J9 (c : Int) (d : Int) (a : Int) (b : Int) (e : Bool) : Option ((Int × Int) × Int) :=
(if e = true then
some ((0, 0), 2)
else
(if (b == 0) = true then
some ((0, 0), 5)
else
(if ((decide (a < 0)) != (decide (b < 0))) = true then
interval_Scale_J12 b (i64.wrap (d * a)) (i64.wrap (c * a))
else
interval_Scale_J12 b (i64.wrap (c * a)) (i64.wrap (d * a)))))
def interval_Scale (c : Int) (d : Int) (a : Int) (b : Int) : Option ((Int × Int) × Int) :=
((interval_Valid c d).bind fun e =>
(if (!e) = true then
some ((0, 0), 1)
else
(if (decide (a < (-1000000))) = true then
interval_Scale_J9 c d a b true
else
(if (decide (a > 1000000)) = true then
interval_Scale_J9 c d a b true
else
(if (decide (b < (-1000000))) = true then
interval_Scale_J9 c d a b true
else
interval_Scale_J9 c d a b (decide (b > 1000000)))))))
theorem interval_Scale_w (i j e g v n) (a : interval_Scale i j e g = some v) : CallVC Tryz.prog 40 [.agg #[Vi i, Vi j], Vi e, Vi g] n fun x m => x = .tuple #[.agg #[Vi v.1.1, Vi v.1.2], Vi v.2] ∧ Ev [] n m := by
 refine Cw hmx Tryz.func40 R R R ?_
 have b := Ev.refl [] n
 have c := MS.one n
 have f := FR.nil n.heap.size
 refine Cs (Xo R (fun o ah G h C => ?_))
 have c := c.box C G h
 have f := f.box b.size G
 have b := b.ext C
 refine Xj #[Vi 0, Vi 0] R (fun l ad H d B => ?_)
 have h := B.box h nn
 have c := c.box B H d
 have f := f.box b.size H
 have b := b.ext B
 refine Xu 1 [(7, Vi 0)] (Xk (Cq (Cb (Cs (Yl _ _ R (Ra 0 [Vi i, Vi j] tagg39 h nn R) ?_)))))
 obtain ⟨I, q, a⟩ := Bs a
 have p := interval_Valid_w i j _ ad q
 refine Xv p R ?_
 rintro x am ⟨rfl, z⟩
 have h := z.box h nn
 have d := z.box d nn
 have c := c.ev z
 have b := b.ext z
 refine Xu 2 [(13, .bool (!I)), (10, .bool (!I))] (Xk (Ci _ R a (fun a => ?_) (fun a => ?_)))
 · refine Cs (Xg (.agg #[Vi 0, Vi 0]) R ?_)
   obtain ⟨an, aa, N, U⟩ := Sa [Vi 0, Vi 0] tagg39 d R R R
   refine Xp aa R ?_
   have b := b.th U f 0
   have d := N
   refine Xu 1 [(7, Vi 1)] (Xk (Cr (Kb (Kr (Rr (Rv [.agg #[Vi 0, Vi 0], Vi 1] ⟨⟨_, R, Lv (Ra (Mo := []) 0 [Vi 0, Vi 0] tagg39 d nn R)⟩, R, T0⟩ ?_))))))
   obtain rfl := Sj a
   exact ⟨R, b⟩
 refine c_join (σ := Bool) (fun r => match r with | w => [(1, Vi e), (2, Vi g), (3, Vp o 0), (6, Vp l 0), (15, .bool w)]) (fun r m => match r with | w => interval_Scale_J9 i j e g w = some v ∧ Ev [] n m ∧ MS m [[o], [l], []] ∧ FR n.heap.size [[o], [l]] ∧ m.heap[o]? = some (.cells #[Vi i, Vi j] 39 (0, 0)) ∧ m.heap[l]? = some (.cells #[Vi 0, Vi 0] 39 (0, 0))) ?_ ?_
 · refine Cp (Xu 3 [(16, Vi e), (17, Bd (e < (-1000000))), (18, Bd (e < (-1000000)))] (Xw 18 _ R a (fun a => ?_) (fun a => ?_)))
   · refine Xu 12 [(19, U0), (20, U0), (21, .bool true), (22, .bool true), (23, U0), (24, U0), (25, .bool true), (26, .bool true), (27, U0), (28, U0), (29, .bool true), (15, .bool true)] (Xe R ?_)
     have c := E1 (Cx.s c [1, 0, 2]) c
     have f := f.px [1, 0]
     exact Kt ⟨true, ⟨R, R, R, R, R, T0⟩, a, b, c, f, h, d⟩
   refine Xu 4 [(19, Vi e), (20, Bd (e > 1000000)), (21, Bd (e > 1000000)), (22, Bd (e > 1000000))] (Xw 22 _ R a (fun a => ?_) (fun a => ?_))
   · refine Xu 8 [(23, U0), (24, U0), (25, .bool true), (26, .bool true), (27, U0), (28, U0), (29, .bool true), (15, .bool true)] (Xe R ?_)
     have c := E1 (Cx.s c [1, 0, 2]) c
     have f := f.px [1, 0]
     exact Kt ⟨true, ⟨R, R, R, R, R, T0⟩, a, b, c, f, h, d⟩
   refine Xu 4 [(23, Vi g), (24, Bd (g < (-1000000))), (25, Bd (g < (-1000000))), (26, Bd (g < (-1000000)))] (Xw 26 _ R a (fun a => ?_) (fun a => ?_))
   · refine Xu 4 [(27, U0), (28, U0), (29, .bool true), (15, .bool true)] (Xe R ?_)
     have c := E1 (Cx.s c [1, 0, 2]) c
     have f := f.px [1, 0]
     exact Kt ⟨true, ⟨R, R, R, R, R, T0⟩, a, b, c, f, h, d⟩
   refine Xu 4 [(27, Vi g), (28, Bd (g > 1000000)), (29, Bd (g > 1000000)), (15, Bd (g > 1000000))] (Xe R ?_)
   have c := E1 (Cx.s c [1, 0, 2]) c
   have f := f.px [1, 0]
   exact Kt ⟨decide (g > 1000000), ⟨R, R, R, R, R, T0⟩, a, b, c, f, h, d⟩
 rintro w y A ⟨a, b, c, f, h, d⟩
 refine Ci w R a (fun a => ?_) (fun a => ?_)
 · refine Cs (Xg (.agg #[Vi 0, Vi 0]) R ?_)
   obtain ⟨ai, X, J, O⟩ := Sa [Vi 0, Vi 0] tagg39 d R R R
   refine Xp X R ?_
   have b := b.th O f 1
   have d := J
   refine Xu 1 [(7, Vi 2)] (Xk (Cn [(6, Vp l 0), (7, Vi 2)] (fun y => ?_)))
   refine Cr (Kb (Kr (Rr (Rv [.agg #[Vi 0, Vi 0], Vi 2] ⟨⟨_, R, Lv (Ra (Mo := []) 0 [Vi 0, Vi 0] tagg39 d nn R)⟩, R, T0⟩ ?_))))
   obtain rfl := Sj a
   exact ⟨R, b⟩
 refine Cs (Xu 3 [(32, Vi g), (33, .bool (g == 0)), (31, .bool (g == 0))] (Xk (Cn [(1, Vi e), (2, Vi g), (3, Vp o 0), (6, Vp l 0), (31, .bool (g == 0))] (fun y => ?_))))
 refine Ci _ R a (fun a => ?_) (fun a => ?_)
 · refine Cs (Xg (.agg #[Vi 0, Vi 0]) R ?_)
   obtain ⟨aj, Y, K, Q⟩ := Sa [Vi 0, Vi 0] tagg39 d R R R
   refine Xp Y R ?_
   have b := b.th Q f 1
   have d := K
   refine Xu 1 [(7, Vi 5)] (Xk (Cr (Kb (Kr (Rr (Rv [.agg #[Vi 0, Vi 0], Vi 5] ⟨⟨_, R, Lv (Ra (Mo := []) 0 [Vi 0, Vi 0] tagg39 d nn R)⟩, R, T0⟩ ?_))))))
   obtain rfl := Sj a
   exact ⟨R, b⟩
 refine Ck (Kl (Kt (Cq (Cd [] [(0, false), (1, false), (2, false), (3, false), (4, false), (5, false), (6, false), (7, false), (8, false), (9, false)] _ (by kernel_rfl) R ?_))))
 have h := (Ev.drew A).box h nn
 have d := (Ev.drew A).box d nn
 have c := c.ev (Ev.drew A)
 have b := b.ext (Ev.drew A)
 refine Yg o 0 0 (Vi i) R R (Rf tfld39_0 _) tcell3 h nn R (Xu 2 [(37, Vi e), (38, Vi (i64.wrap (i * e)))] (Yg o 0 1 (Vi j) R R (Rf tfld39_1 _) tcell3 h nn R (Xu 4 [(41, Vi e), (42, Vi (i64.wrap (j * e))), (8, Vi (i64.wrap (i * e))), (9, Vi (i64.wrap (j * e)))] (Xk (c_join (σ := Int × Int) (fun r => match r with | (t, u) => [(2, Vi g), (6, Vp l 0), (8, Vi t), (9, Vi u)]) (fun r m => match r with | (t, u) => interval_Scale_J12 g t u = some v ∧ Ev [] n m ∧ MS m [[l], []] ∧ FR n.heap.size [[l]] ∧ m.heap[l]? = some (.cells #[Vi 0, Vi 0] 39 (0, 0))) ?_ ?_)))))
 · refine Cs (Xu 4 [(43, Vi e), (44, Bd (e < 0)), (45, Vi g), (46, Bd (g < 0))] (x_binop (.bool ((decide (e < 0)) != (decide (g < 0)))) (Bd (e < 0)) (Bd (g < 0)) R R R R (vb_boolneq tbool4) (Xk (Ci _ R a (fun a => ?_) (fun a => ?_)))))
   · refine Cp (Xu 4 [(48, Vi (i64.wrap (j * e))), (49, Vi (i64.wrap (i * e))), (8, Vi (i64.wrap (j * e))), (9, Vi (i64.wrap (i * e)))] (Xe R ?_))
     have c := E1 (Cx.s c [1, 2]) c
     have f := f.px [1]
     exact Kt ⟨(i64.wrap (j * e), i64.wrap (i * e)), ⟨R, R, R, R, T0⟩, a, b, c, f, d⟩
   refine Ck ?_
   have c := E1 (Cx.s c [1, 2]) c
   have f := f.px [1]
   exact Kt ⟨(i64.wrap (i * e), i64.wrap (j * e)), ⟨R, R, R, R, T0⟩, a, b, c, f, d⟩
 rintro ⟨t, u⟩ y ae ⟨a, b, c, f, d⟩
 refine Cs (Xu 2 [(50, Vi t), (51, Vi g)] ?_)
 obtain ⟨af, q, a⟩ := Bs a
 have p := interval_down_w t g _ ae q
 refine Xv p R ?_
 rintro x ab ⟨rfl, D⟩
 have d := D.box d nn
 have b := b.ext D
 refine Xu 2 [(53, Vi u), (54, Vi g)] ?_
 obtain ⟨ag, q, a⟩ := Bs a
 have p := interval_up_w u g _ ab q
 refine Xv p R ?_
 rintro x ac ⟨rfl, E⟩
 have d := E.box d nn
 have b := b.ext E
 obtain ⟨k, q, a⟩ := Bs a
 have p := interval_result_w af ag _ ac q
 refine Xv p R ?_
 rintro x ak ⟨rfl, F⟩
 have d := F.box d nn
 have b := b.ext F
 refine Xu 2 [(57, .agg #[Vi k.1.1, Vi k.1.2]), (58, Vi k.2)] ?_
 obtain ⟨al, Z, L, S⟩ := Sa [Vi k.1.1, Vi k.1.2] tagg39 d R R R
 refine Xp Z R ?_
 have b := b.th S f 0
 have d := L
 refine Xu 1 [(7, Vi k.2)] (Xk (Cn [(6, Vp l 0), (7, Vi k.2)] (fun y => ?_)))
 refine Cr (Rr (Rv [.agg #[Vi k.1.1, Vi k.1.2], Vi k.2] ⟨⟨_, R, Lv (Ra (Mo := []) 0 [Vi k.1.1, Vi k.1.2] tagg39 d nn R)⟩, R, T0⟩ ?_))
 obtain rfl := Sj a
 exact ⟨R, b⟩
def interval_Floor (c : Int) (a : Int) : Option (Int × Int) :=
(if (a == 0) = true then
some (0, 5)
else
((interval_down c a).bind fun b =>
((interval_inside b).bind fun d =>
(if d = true then
some (b, 0)
else
some (0, 4)))))
theorem interval_Floor_w (e c i f) (a : interval_Floor e c = some i) : CallVC Tryz.prog 75 [Vi e, Vi c] f fun j m => j = .tuple #[Vi i.1, Vi i.2] ∧ Ev [] f m := by
 refine Cw hmx Tryz.func75 R R R ?_
 have b := Ev.refl [] f
 refine Cs (Xu 2 [(4, Vi 0), (5, Vi 0)] (Xk (Cq (Cs (Xu 2 [(7, Vi c), (8, .bool (c == 0))] (Xk (Ci _ R a (fun a => ?_) (fun a => ?_))))))))
 · refine Cs (Xu 2 [(4, Vi 0), (5, Vi 5)] (Xk (Cr (Kr (Rr (Rv [Vi 0, Vi 5] ⟨R, R, T0⟩ ?_))))))
   obtain rfl := Sj a
   exact ⟨R, b⟩
 refine Ck (Kt (Cq (Cs (Xu 2 [(9, Vi e), (10, Vi c)] ?_))))
 obtain ⟨d, h, a⟩ := Bs a
 have g := interval_down_w e c _ f h
 refine Xv g R ?_
 rintro j n ⟨rfl, k⟩
 have b := b.ext k
 refine Xu 1 [(6, Vi d)] (Xk (Cs (Xu 1 [(12, Vi d)] ?_)))
 obtain ⟨o, h, a⟩ := Bs a
 have g := interval_inside_w d _ n h
 refine Xv g R ?_
 rintro j p ⟨rfl, l⟩
 have b := b.ext l
 refine Xk (Ci o R a (fun a => ?_) (fun a => ?_))
 · refine Cs (Xu 3 [(14, Vi d), (4, Vi d), (5, Vi 0)] (Xk (Cr (Kr (Rr (Rv [Vi d, Vi 0] ⟨R, R, T0⟩ ?_))))))
   obtain rfl := Sj a
   exact ⟨R, b⟩
 refine Ck (Kt (Cs (Xu 2 [(4, Vi 0), (5, Vi 4)] (Xk (Cr (Rr (Rv [Vi 0, Vi 4] ⟨R, R, T0⟩ ?_)))))))
 obtain rfl := Sj a
 exact ⟨R, b⟩
def interval_Ceil (c : Int) (a : Int) : Option (Int × Int) :=
(if (a == 0) = true then
some (0, 5)
else
((interval_up c a).bind fun b =>
((interval_inside b).bind fun d =>
(if d = true then
some (b, 0)
else
some (0, 4)))))
theorem interval_Ceil_w (e c i f) (a : interval_Ceil e c = some i) : CallVC Tryz.prog 76 [Vi e, Vi c] f fun j m => j = .tuple #[Vi i.1, Vi i.2] ∧ Ev [] f m := by
 refine Cw hmx Tryz.func76 R R R ?_
 have b := Ev.refl [] f
 refine Cs (Xu 2 [(4, Vi 0), (5, Vi 0)] (Xk (Cq (Cs (Xu 2 [(7, Vi c), (8, .bool (c == 0))] (Xk (Ci _ R a (fun a => ?_) (fun a => ?_))))))))
 · refine Cs (Xu 2 [(4, Vi 0), (5, Vi 5)] (Xk (Cr (Kr (Rr (Rv [Vi 0, Vi 5] ⟨R, R, T0⟩ ?_))))))
   obtain rfl := Sj a
   exact ⟨R, b⟩
 refine Ck (Kt (Cq (Cs (Xu 2 [(9, Vi e), (10, Vi c)] ?_))))
 obtain ⟨d, h, a⟩ := Bs a
 have g := interval_up_w e c _ f h
 refine Xv g R ?_
 rintro j n ⟨rfl, k⟩
 have b := b.ext k
 refine Xu 1 [(6, Vi d)] (Xk (Cs (Xu 1 [(12, Vi d)] ?_)))
 obtain ⟨o, h, a⟩ := Bs a
 have g := interval_inside_w d _ n h
 refine Xv g R ?_
 rintro j p ⟨rfl, l⟩
 have b := b.ext l
 refine Xk (Ci o R a (fun a => ?_) (fun a => ?_))
 · refine Cs (Xu 3 [(14, Vi d), (4, Vi d), (5, Vi 0)] (Xk (Cr (Kr (Rr (Rv [Vi d, Vi 0] ⟨R, R, T0⟩ ?_))))))
   obtain rfl := Sj a
   exact ⟨R, b⟩
 refine Ck (Kt (Cs (Xu 2 [(4, Vi 0), (5, Vi 4)] (Xk (Cr (Rr (Rv [Vi 0, Vi 4] ⟨R, R, T0⟩ ?_)))))))
 obtain rfl := Sj a
 exact ⟨R, b⟩
def interval_root_L1 (c : Int) (d : Int × Int) : Option (Step (Int × Int) Int) :=
match d with
| (a, b) =>
(if (decide ((i64.wrap (b - a)) > 1)) = true then
(if (decide ((i64.wrap ((i64.wrap (Int.tdiv (i64.wrap (a + b)) 2)) * (i64.wrap (Int.tdiv (i64.wrap (a + b)) 2)))) ≤ c)) = true then
some (.next (i64.wrap (Int.tdiv (i64.wrap (a + b)) 2), b))
else
some (.next (a, i64.wrap (Int.tdiv (i64.wrap (a + b)) 2))))
else
some (.done a))
def interval_root (c : Int) : Option Int :=
((loop (interval_root_L1 c) (0, 1000001)).bind fun a => match a with
| b => some b)
theorem interval_root_w (d o e) (c : interval_root d = some o) : CallVC Tryz.prog 90 [Vi d] e fun t l => t = Vi o ∧ Ev [] e l := by
 refine Cw hmx Tryz.func90 R R R ?_
 have h := Ev.refl [] e
 have k := MS.one e
 have j := FR.nil e.heap.size
 refine Cs (Xu 1 [(2, Vi 0)] (Xk (Cs (Xu 2 [(3, Vi 0), (4, Vi 1000001)] (Xk (Cq (Cb ?_)))))))
 obtain ⟨p, m, q⟩ := Bs c
 obtain ⟨g, m⟩ := Lo m
 refine Cl (Lr hmx (σ := Nat × Int × Int) (fun i => match i with | (_, a, b) => [(0, Vi d), (3, Vi a), (4, Vi b)]) (fun i l => match i with | (s, a, b) => loopN (interval_root_L1 d) s (a, b) = some p ∧ Ev [] e l ∧ MS l [[]] ∧ FR e.heap.size []) (fun i => i.1) (g, 0, 1000001) ⟨R, R, R, T0⟩ ⟨m, h, k, j⟩ ?_)
 rintro ⟨g, a, b⟩ n v ⟨f, h, k, j⟩
 rcases g with _ | g
 · exact (Lz f).elim
 obtain ⟨u, c, f⟩ := Bs f
 refine Cq (Cs (Xu 4 [(6, Vi b), (7, Vi a), (8, Vi (i64.wrap (b - a))), (9, Bd ((i64.wrap (b - a)) > 1))] (Xk (Cn [(0, Vi d), (3, Vi a), (4, Vi b), (9, Bd ((i64.wrap (b - a)) > 1))] (fun n => ?_)))))
 refine Ci _ R c (fun c => ?_) (fun c => ?_)
 · refine Ck (Kt (Cb (Cs (Xu 5 [(10, Vi a), (11, Vi b), (12, Vi (i64.wrap (a + b))), (13, Vi (i64.wrap (Int.tdiv (i64.wrap (a + b)) 2))), (5, Vi (i64.wrap (Int.tdiv (i64.wrap (a + b)) 2)))] (Xk (Cs (Xu 5 [(14, Vi (i64.wrap (Int.tdiv (i64.wrap (a + b)) 2))), (15, Vi (i64.wrap (Int.tdiv (i64.wrap (a + b)) 2))), (16, Vi (i64.wrap ((i64.wrap (Int.tdiv (i64.wrap (a + b)) 2)) * (i64.wrap (Int.tdiv (i64.wrap (a + b)) 2))))), (17, Vi d), (18, .bool (decide ((i64.wrap ((i64.wrap (Int.tdiv (i64.wrap (a + b)) 2)) * (i64.wrap (Int.tdiv (i64.wrap (a + b)) 2)))) ≤ d)))] (Xk (Ci _ R c (fun c => ?_) (fun c => ?_))))))))))
   · refine Cp (Xu 2 [(19, Vi (i64.wrap (Int.tdiv (i64.wrap (a + b)) 2))), (3, Vi (i64.wrap (Int.tdiv (i64.wrap (a + b)) 2)))] (Xe R (Kl ?_)))
     obtain rfl := Sj c
     exact Kt ⟨(g, i64.wrap (Int.tdiv (i64.wrap (a + b)) 2), b), ⟨R, R, R, T0⟩, ⟨f, h, k, j⟩, Ns _⟩
   refine Cp (Xu 2 [(20, Vi (i64.wrap (Int.tdiv (i64.wrap (a + b)) 2))), (4, Vi (i64.wrap (Int.tdiv (i64.wrap (a + b)) 2)))] (Xe R (Kl ?_)))
   obtain rfl := Sj c
   exact Kt ⟨(g, a, i64.wrap (Int.tdiv (i64.wrap (a + b)) 2)), ⟨R, R, R, T0⟩, ⟨f, h, k, j⟩, Ns _⟩
 refine Ce (Ke ?_)
 obtain rfl := Sj c
 have r := Sj f
 subst r
 have c := q
 refine Ke (Ki (Kt (Cn [(3, Vi a)] (fun n => ?_))))
 refine Cs (Xu 2 [(21, Vi a), (2, Vi a)] (Xk (Cr (Rz (Vi a) R ?_))))
 obtain rfl := Sj c
 exact ⟨R, h⟩
def interval_Root_J13 (b : Int) (a : Int) : Option ((Int × Int) × Int) :=
((interval_root b).bind fun c =>
some ((c, a), 0))
def interval_Root (a : Int) (c : Int) : Option ((Int × Int) × Int) :=
((interval_Valid a c).bind fun d =>
(if (!d) = true then
some ((0, 0), 1)
else
(if (decide (a < 0)) = true then
some ((0, 0), 2)
else
((interval_root c).bind fun b =>
(if (decide ((i64.wrap (b * b)) < c)) = true then
interval_Root_J13 a (i64.wrap (b + 1))
else
interval_Root_J13 a b)))))
theorem interval_Root_w (h j q l) (b : interval_Root h j = some q) : CallVC Tryz.prog 74 [.agg #[Vi h, Vi j]] l fun u m => u = .tuple #[.agg #[Vi q.1.1, Vi q.1.2], Vi q.2] ∧ Ev [] l m := by
 refine Cw hmx Tryz.func74 R R R ?_
 have a := Ev.refl [] l
 have d := MS.one l
 have f := FR.nil l.heap.size
 refine Cs (Xo R (fun k U A e y => ?_))
 have d := d.box y A e
 have f := f.box a.size A
 have a := a.ext y
 refine Xj #[Vi 0, Vi 0] R (fun n N B c w => ?_)
 have e := w.box e nn
 have d := d.box w B c
 have f := f.box a.size B
 have a := a.ext w
 refine Xu 1 [(3, Vi 0)] (Xk (Cq (Cs (Yl _ _ R (Ra 0 [Vi h, Vi j] tagg39 e nn R) ?_))))
 obtain ⟨S, p, b⟩ := Bs b
 have o := interval_Valid_w h j _ N p
 refine Xv o R ?_
 rintro u O ⟨rfl, t⟩
 have e := t.box e nn
 have c := t.box c nn
 have d := d.ev t
 have a := a.ext t
 refine Xu 1 [(7, .bool (!S))] (Xk (Ci _ R b (fun b => ?_) (fun b => ?_)))
 · refine Cs (Xg (.agg #[Vi 0, Vi 0]) R ?_)
   obtain ⟨ab, L, F, I⟩ := Sa [Vi 0, Vi 0] tagg39 c R R R
   refine Xp L R ?_
   have a := a.th I f 0
   have c := F
   refine Xu 1 [(3, Vi 1)] (Xk (Cr (Kr (Rr (Rv [.agg #[Vi 0, Vi 0], Vi 1] ⟨⟨_, R, Lv (Ra (Mo := []) 0 [Vi 0, Vi 0] tagg39 c nn R)⟩, R, T0⟩ ?_)))))
   obtain rfl := Sj b
   exact ⟨R, a⟩
 refine Ck (Kt (Cq (Cs (Yg k 0 0 (Vi h) R R (Rf tfld39_0 _) tcell3 e nn R (Xu 1 [(11, Bd (h < 0))] (Xk (Ci _ R b (fun b => ?_) (fun b => ?_))))))))
 · refine Cs (Xg (.agg #[Vi 0, Vi 0]) R ?_)
   obtain ⟨X, J, D, G⟩ := Sa [Vi 0, Vi 0] tagg39 c R R R
   refine Xp J R ?_
   have a := a.th G f 0
   have c := D
   refine Xu 1 [(3, Vi 2)] (Xk (Cr (Kr (Rr (Rv [.agg #[Vi 0, Vi 0], Vi 2] ⟨⟨_, R, Lv (Ra (Mo := []) 0 [Vi 0, Vi 0] tagg39 c nn R)⟩, R, T0⟩ ?_)))))
   obtain rfl := Sj b
   exact ⟨R, a⟩
 refine Ck (Kt (Cs (Yg k 0 1 (Vi j) R R (Rf tfld39_1 _) tcell3 e nn R ?_)))
 obtain ⟨g, p, b⟩ := Bs b
 have o := interval_root_w j _ O p
 refine Xv o R ?_
 rintro u Y ⟨rfl, r⟩
 have e := r.box e nn
 have c := r.box c nn
 have d := d.ev r
 have a := a.ext r
 refine Xu 1 [(4, Vi g)] (Xk (c_join (σ := Int) (fun x => match x with | i => [(1, Vp k 0), (2, Vp n 0), (4, Vi i)]) (fun x m => match x with | i => interval_Root_J13 h i = some q ∧ Ev [] l m ∧ MS m [[k], [n], []] ∧ FR l.heap.size [[k], [n]] ∧ m.heap[k]? = some (.cells #[Vi h, Vi j] 39 (0, 0)) ∧ m.heap[n]? = some (.cells #[Vi 0, Vi 0] 39 (0, 0))) ?_ ?_))
 · refine Cs (Xu 3 [(16, Vi g), (17, Vi g), (18, Vi (i64.wrap (g * g)))] (Yg k 0 1 (Vi j) R R (Rf tfld39_1 _) tcell3 e nn R (Xu 1 [(21, Bd ((i64.wrap (g * g)) < j))] (Xk (Ci _ R b (fun b => ?_) (fun b => ?_))))))
   · refine Cp (Xu 3 [(22, Vi g), (23, Vi (i64.wrap (g + 1))), (4, Vi (i64.wrap (g + 1)))] (Xe R ?_))
     have d := E1 (Cx.s d [1, 0, 2]) d
     have f := f.px [1, 0]
     exact Kt ⟨i64.wrap (g + 1), ⟨R, R, R, T0⟩, b, a, d, f, e, c⟩
   refine Ck ?_
   have d := E1 (Cx.s d [1, 0, 2]) d
   have f := f.px [1, 0]
   exact Kt ⟨g, ⟨R, R, R, T0⟩, b, a, d, f, e, c⟩
 rintro i C Q ⟨b, a, d, f, e, c⟩
 refine Cs (Yg k 0 0 (Vi h) R R (Rf tfld39_0 _) tcell3 e nn R ?_)
 obtain ⟨v, p, b⟩ := Bs b
 have o := interval_root_w h _ Q p
 refine Xv o R ?_
 rintro u Z ⟨rfl, z⟩
 have c := z.box c nn
 have a := a.ext z
 refine Xu 1 [(27, Vi i)] (Xg (.agg #[Vi v, Vi i]) R ?_)
 obtain ⟨aa, K, E, H⟩ := Sa [Vi v, Vi i] tagg39 c R R R
 refine Xp K R ?_
 have a := a.th H f 1
 have c := E
 refine Xu 1 [(3, Vi 0)] (Xk (Cn [(2, Vp n 0), (3, Vi 0)] (fun C => ?_)))
 refine Cr (Rr (Rv [.agg #[Vi v, Vi i], Vi 0] ⟨⟨_, R, Lv (Ra (Mo := []) 0 [Vi v, Vi i] tagg39 c nn R)⟩, R, T0⟩ ?_))
 obtain rfl := Sj b
 exact ⟨R, a⟩
def interval_Contains (a : Int) (b : Int) (c : Int) : Option Bool :=
((interval_Valid a b).bind fun d =>
(if d = true then
(if (decide (c ≥ a)) = true then
some (decide (c ≤ b))
else
some false)
else
some false))
theorem interval_Contains_w (d c b j g) (a : interval_Contains d c b = some j) : CallVC Tryz.prog 53 [.agg #[Vi d, Vi c], Vi b] g fun k p => k = .bool j ∧ Ev [] g p := by
 refine Cw hmx Tryz.func53 R R R ?_
 have e := Ev.refl [] g
 refine Cs (Xo R (fun h q r f n => ?_))
 have e := e.ext n
 refine Xu 1 [(4, .bool false)] (Xk (Cs (Yl _ _ R (Ra 0 [Vi d, Vi c] tagg39 f nn R) ?_)))
 obtain ⟨l, o, a⟩ := Bs a
 have m := interval_Valid_w d c _ q o
 refine Xv m R ?_
 rintro k s ⟨rfl, i⟩
 have f := i.box f nn
 have e := e.ext i
 refine Xu 1 [(7, .bool l)] (Xw 7 l R a (fun a => ?_) (fun a => ?_))
 · refine Xu 1 [(8, Vi b)] (Yg h 0 0 (Vi d) R R (Rf tfld39_0 _) tcell3 f nn R (Xu 3 [(11, Bd (b ≥ d)), (12, Bd (b ≥ d)), (13, Bd (b ≥ d))] (Xw 13 _ R a (fun a => ?_) (fun a => ?_))))
   · refine Xu 1 [(14, Vi b)] (Yg h 0 1 (Vi c) R R (Rf tfld39_1 _) tcell3 f nn R (Xu 3 [(17, Bd (b ≤ c)), (18, Bd (b ≤ c)), (4, Bd (b ≤ c))] (Xk (Cr (Rz (Bd (b ≤ c)) R ?_)))))
     obtain rfl := Sj a
     exact ⟨R, e⟩
   refine Xu 6 [(14, U0), (15, U0), (16, U0), (17, U0), (18, .bool false), (4, .bool false)] (Xk (Cr (Rz (.bool false) R ?_)))
   obtain rfl := Sj a
   exact ⟨R, e⟩
 refine Xu 12 [(8, U0), (9, U0), (10, U0), (11, U0), (12, .bool false), (13, .bool false), (14, U0), (15, U0), (16, U0), (17, U0), (18, .bool false), (4, .bool false)] (Xk (Cr (Rz (.bool false) R ?_)))
 obtain rfl := Sj a
 exact ⟨R, e⟩
end Go.Proofs.YtlgdhajakblkaaaGreatDoor
