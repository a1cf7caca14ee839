
/- Walks, printed by program: each function returns what the partial function of the same name returns. Conditions: those of each theorem. -/
import Derived.Test.YtlgdhajakblkaaaGreatDoorGT
import Derived.Test.YtlgdhajakblkaaaGreatDoorGr20
set_option linter.unusedVariables false
set_option linter.unusedSimpArgs false
set_option maxRecDepth 4000
namespace Go.Proofs.YtlgdhajakblkaaaGreatDoor
open Go Go.V Go.Proofs Go.IntKind
def gen_New (a : List Int) : Option ((List Int) × Int) :=
some (a, 0)
theorem gen_New_w (e g h k d a) (j : MS d [a]) (n : SlR eI d (fl [a]) e g h) (s : gen_New h = some k) : CallVC Tryz.prog 4 [Vl e h g] d fun x l => ∃ f o p, x = .pointer (some ⟨f, 0, none⟩) ∧ Ev [] d l ∧ MS l [[f], a] ∧ FR d.heap.size [[f]] ∧ l.heap[f]? = some (.cells #[Vl o k.1 p, Vi k.2] 72 (0, 0)) ∧ SlR eI l (fl [[f], a]) o p k.1 := by
 refine Cw hmx Tryz.func4 R R R ?_
 have i := Ev.refl [] d
 have m := FR.nil d.heap.size
 refine Cs (Xu 1 [(2, .pointer none)] (Xk (Cs (Xu 1 [(3, Vl e h g)] (Xg (.agg #[Vl e h g, Vi 0]) R (Xo R (fun c y r q t => ?_)))))))
 have m := m.box i.size r
 obtain ⟨n, j, i⟩ := E3 (Cx.b j t r q) n j i
 refine Xu 1 [(2, Vp c 0)] (Xk (Cr (Rz (Vp c 0) R ?_)))
 obtain rfl := Sj s
 have v := j.pk [0, 1] [[c], a] R
 have w := Pk (ls := [[c], a]) [0, 1] [[c], a] R
 have u := m.pk [0] [[c]] R
 exact ⟨c, e, g, R, i, v, u, q, n.sub w⟩
def gen_word (a : Int) : Option (List UInt8) :=
some (ofB ([101, u8.wrap (i64.wrap (48 + (Int.tmod (i64.wrap (Int.tdiv a 100)) 10))), u8.wrap (i64.wrap (48 + (Int.tmod (i64.wrap (Int.tdiv a 10)) 10))), u8.wrap (i64.wrap (48 + (Int.tmod a 10)))]))
theorem gen_word_w (a f b) (g : gen_word a = some f) : CallVC Tryz.prog 30 [Vi a] b fun n o => n = Vs f ∧ Ev [] b o := by
 refine Cw hmx Tryz.func30 R R R ?_
 have d := Ev.refl [] b
 have j := MS.one b
 refine Cs (Xu 1 [(2, Vs ([] : List UInt8))] (Xk (Cs (Xu 4 [(3, Vi a), (4, Vi (i64.wrap (Int.tdiv a 100))), (5, Vi (Int.tmod (i64.wrap (Int.tdiv a 100)) 10)), (6, Vi (i64.wrap (48 + (Int.tmod (i64.wrap (Int.tdiv a 100)) 10))))] (x_convert (.int .u8 (u8.wrap (i64.wrap (48 + (Int.tmod (i64.wrap (Int.tdiv a 100)) 10))))) _ R R R (tcv3_5 (i64.wrap (48 + (Int.tmod (i64.wrap (Int.tdiv a 100)) 10))) _) (I1 (Xu 4 [(8, Vi a), (9, Vi (i64.wrap (Int.tdiv a 10))), (10, Vi (Int.tmod (i64.wrap (Int.tdiv a 10)) 10)), (11, Vi (i64.wrap (48 + (Int.tmod (i64.wrap (Int.tdiv a 10)) 10))))] (x_convert (.int .u8 (u8.wrap (i64.wrap (48 + (Int.tmod (i64.wrap (Int.tdiv a 10)) 10))))) _ R R R (tcv3_5 (i64.wrap (48 + (Int.tmod (i64.wrap (Int.tdiv a 10)) 10))) _) (I1 ?_)))))))))
 refine Xu 3 [(13, Vi a), (14, Vi (Int.tmod a 10)), (15, Vi (i64.wrap (48 + (Int.tmod a 10))))] (x_convert (.int .u8 (u8.wrap (i64.wrap (48 + (Int.tmod a 10))))) _ R R R (tcv3_5 (i64.wrap (48 + (Int.tmod a 10))) _) (I1 (Xh #[.int .u8 101, .int .u8 (u8.wrap (i64.wrap (48 + (Int.tmod (i64.wrap (Int.tdiv a 100)) 10)))), .int .u8 (u8.wrap (i64.wrap (48 + (Int.tmod (i64.wrap (Int.tdiv a 10)) 10)))), .int .u8 (u8.wrap (i64.wrap (48 + (Int.tmod a 10))))] 5 R (fun e p l h i => ?_))))
 have k := j
 have d := d.ext i
 have m : SlR (eInt .u8) p (fl [[]]) (Ad e 0) 4 ([101, u8.wrap (i64.wrap (48 + (Int.tmod (i64.wrap (Int.tdiv a 100)) 10))), u8.wrap (i64.wrap (48 + (Int.tmod (i64.wrap (Int.tdiv a 10)) 10))), u8.wrap (i64.wrap (48 + (Int.tmod a 10)))]) := ro_of_box k l h R R (cells_at (cs := [.int .u8 101, .int .u8 (u8.wrap (i64.wrap (48 + (Int.tmod (i64.wrap (Int.tdiv a 100)) 10)))), .int .u8 (u8.wrap (i64.wrap (48 + (Int.tmod (i64.wrap (Int.tdiv a 10)) 10)))), .int .u8 (u8.wrap (i64.wrap (48 + (Int.tmod a 10))))]) (CellsOf.cons (c := [.int .u8 101]) R (CellsOf.cons (c := [.int .u8 (u8.wrap (i64.wrap (48 + (Int.tmod (i64.wrap (Int.tdiv a 100)) 10))))]) R (CellsOf.cons (c := [.int .u8 (u8.wrap (i64.wrap (48 + (Int.tmod (i64.wrap (Int.tdiv a 10)) 10))))]) R (CellsOf.cons (c := [.int .u8 (u8.wrap (i64.wrap (48 + (Int.tmod a 10))))]) R CellsOf.nil)))))
 refine x_convert (xv := Vl (Ad e 0) ([101, u8.wrap (i64.wrap (48 + (Int.tmod (i64.wrap (Int.tdiv a 100)) 10))), u8.wrap (i64.wrap (48 + (Int.tmod (i64.wrap (Int.tdiv a 10)) 10))), u8.wrap (i64.wrap (48 + (Int.tmod a 10)))]) 4) (Vs (ofB ([101, u8.wrap (i64.wrap (48 + (Int.tmod (i64.wrap (Int.tdiv a 100)) 10))), u8.wrap (i64.wrap (48 + (Int.tmod (i64.wrap (Int.tdiv a 10)) 10))), u8.wrap (i64.wrap (48 + (Int.tmod a 10)))]))) _ R R R (run_ofB tuns75 tint5 tstr9 m) (I1 (Xu 1 [(2, Vs (ofB ([101, u8.wrap (i64.wrap (48 + (Int.tmod (i64.wrap (Int.tdiv a 100)) 10))), u8.wrap (i64.wrap (48 + (Int.tmod (i64.wrap (Int.tdiv a 10)) 10))), u8.wrap (i64.wrap (48 + (Int.tmod a 10)))])))] (Xk (Cr (Rz (Vs (ofB ([101, u8.wrap (i64.wrap (48 + (Int.tmod (i64.wrap (Int.tdiv a 100)) 10))), u8.wrap (i64.wrap (48 + (Int.tmod (i64.wrap (Int.tdiv a 10)) 10))), u8.wrap (i64.wrap (48 + (Int.tmod a 10)))]))) R ?_)))))
 obtain rfl := Sj g
 exact ⟨R, d⟩
def gen_Maker_Next_J3 (c : Int) (a : Int) (b : Int) : Option (Int × Int) :=
(if a ≠ 0 then
(if (decide ((Int.tmod b a) < 0)) = true then
some (i64.wrap ((Int.tmod b a) + a), i64.wrap (c + 1))
else
some (Int.tmod b a, i64.wrap (c + 1)))
else none)
def gen_Maker_Next (a : List Int) (b : Int) (c : Int) : Option (Int × Int) :=
(if (decide (((a).length : Int) > 0)) = true then
(if ((a).length : Int) ≠ 0 then
((idx a (Int.tmod b ((a).length : Int))).bind fun d =>
(if ((a).length : Int) ≠ 0 then
gen_Maker_Next_J3 b c (i64.wrap (d + (i64.wrap ((i64.wrap (Int.tdiv b ((a).length : Int))) * 7919))))
else none))
else none)
else
gen_Maker_Next_J3 b c 0)
theorem gen_Maker_Next_w (a j k f g b q i p) (n : MS i [[a], p]) (o : SlR eI i (fl [[a], p]) j k f) (h : i.heap[a]? = some (.cells #[Vl j f k, Vi g] 72 (0, 0))) (c : gen_Maker_Next f g b = some q) : CallVC Tryz.prog 9 [Vp a 0, Vi b] i fun z m => z = Vi q.1 ∧ Ev [a] i m ∧ m.heap[a]? = some (.cells #[Vl j f k, Vi q.2] 72 (0, 0)) := by
 refine Cw hmx Tryz.func9 R R R ?_
 have l := Ev.refl [a] i
 have r := FR.nil i.heap.size
 refine Cs (Xu 1 [(4, Vi 0)] (Xk (Cs (Xu 1 [(5, Vi 0)] (Xk (c_join (σ := Int) (fun s => match s with | d => [(0, Vp a 0), (1, Vi b), (5, Vi d)]) (fun s m => match s with | d => gen_Maker_Next_J3 g b d = some q ∧ Ev [a] i m ∧ MS m [[a], p] ∧ FR i.heap.size [] ∧ SlR eI m (fl [[a], p]) j k f ∧ m.heap[a]? = some (.cells #[Vl j f k, Vi g] 72 (0, 0))) ?_ ?_))))))
 · refine Cs (Xu 2 [(6, Vp a 0), (7, Vp a 0)] (Yg a 0 0 (Vl j f k) R R (Rf tfld72_0 _) tcell22 h nn R (Xz tsl22 R (Xu 1 [(11, Bd (((f).length : Int) > 0))] (Xk (Ci _ R c (fun c => ?_) (fun c => ?_)))))))
   · refine Cd [] [(0, false), (1, false), (2, false), (3, false), (4, false), (5, false), (6, false), (7, false), (8, false), (9, false), (10, false), (11, false), (12, false), (13, false), (14, false), (15, false), (16, false), (17, false), (18, false), (19, false), (20, false), (21, false), (22, false), (23, false), (24, false), (25, false), (26, false), (27, false), (28, false)] _ (by kernel_rfl) R ?_
     obtain ⟨o, h, n, l⟩ := E4 (Cx.e n (Ev.drew i)) o h n l
     refine Xu 2 [(12, Vp a 0), (13, Vp a 0)] (Yg a 0 0 (Vl j f k) R R (Rf tfld72_0 _) tcell22 h nn R (Xu 2 [(16, Vp a 0), (17, Vp a 0)] (Yg a 0 1 (Vi g) R R (Rf tfld72_1 _) tcell3 h nn R (Xu 2 [(20, Vp a 0), (21, Vp a 0)] (Yg a 0 0 (Vl j f k) R R (Rf tfld72_0 _) tcell22 h nn R (Xz tsl22 R ?_))))))
     refine x_binop (Vi (Int.tmod g ((f).length : Int))) (Vi g) (Vi ((f).length : Int)) R R R R (vb_rem (Gl c)) ?_
     have c := Gr c
     obtain ⟨t, y, c⟩ := Bs c
     refine Xq0 (o.el tsl22) tcell3 y R (fun _ => R) (fun _ => Xu 2 [(28, Vp a 0), (29, Vp a 0)] (Yg a 0 1 (Vi g) R R (Rf tfld72_1 _) tcell3 h nn R (Xu 2 [(32, Vp a 0), (33, Vp a 0)] (Yg a 0 0 (Vl j f k) R R (Rf tfld72_0 _) tcell22 h nn R (Xz tsl22 R (x_binop (Vi (i64.wrap (Int.tdiv g ((f).length : Int)))) (Vi g) (Vi ((f).length : Int)) R R R R (vb_quo (Gl c)) ?_))))))
     have c := Gr c
     refine Xu 3 [(38, Vi (i64.wrap ((i64.wrap (Int.tdiv g ((f).length : Int))) * 7919))), (39, Vi (i64.wrap (t + (i64.wrap ((i64.wrap (Int.tdiv g ((f).length : Int))) * 7919))))), (5, Vi (i64.wrap (t + (i64.wrap ((i64.wrap (Int.tdiv g ((f).length : Int))) * 7919)))))] (Xe R ?_)
     exact Kt ⟨i64.wrap (t + (i64.wrap ((i64.wrap (Int.tdiv g ((f).length : Int))) * 7919))), ⟨R, R, R, T0⟩, c, l, n, r, o, h⟩
   refine Ck ?_
   exact Kt ⟨0, ⟨R, R, R, T0⟩, c, l, n, r, o, h⟩
 rintro d u B ⟨c, l, n, r, o, h⟩
 refine Cs (Xu 2 [(40, Vp a 0), (41, Vp a 0)] (Yg a 0 1 (Vi g) R R (Rf tfld72_1 _) tcell3 h nn R (Xu 2 [(44, Vi (i64.wrap (g + 1))), (45, Vp a 0)] (Yf (Vp a 0) (Vp a 1) R (Rf tfld72_1 _) ?_))))
 obtain ⟨A, x, v, w⟩ := Sx 1 (Vi (i64.wrap (g + 1))) tcell3 h
 refine Xp x R ?_
 have l := l.tv w
 have h := v
 refine Xk (Cn [(1, Vi b), (5, Vi d)] (fun u => ?_))
 refine Cs (Xu 2 [(47, Vi d), (48, Vi b)] (x_binop (Vi (Int.tmod d b)) (Vi d) (Vi b) R R R R (vb_rem (Gl c)) ?_))
 have c := Gr c
 refine Xu 1 [(5, Vi (Int.tmod d b))] (Xk (Cq (Cs (Xu 2 [(50, Vi (Int.tmod d b)), (51, Bd ((Int.tmod d b) < 0))] (Xk (Ci _ R c (fun c => ?_) (fun c => ?_)))))))
 · refine Cp (Xu 4 [(52, Vi (Int.tmod d b)), (53, Vi b), (54, Vi (i64.wrap ((Int.tmod d b) + b))), (5, Vi (i64.wrap ((Int.tmod d b) + b)))] (Xk (Cs (Xu 2 [(55, Vi (i64.wrap ((Int.tmod d b) + b))), (4, Vi (i64.wrap ((Int.tmod d b) + b)))] (Xk (Cr (Rz (Vi (i64.wrap ((Int.tmod d b) + b))) R ?_)))))))
   obtain rfl := Sj c
   exact ⟨R, l, h⟩
 refine Ck (Kt (Cs (Xu 2 [(55, Vi (Int.tmod d b)), (4, Vi (Int.tmod d b))] (Xk (Cr (Rz (Vi (Int.tmod d b)) R ?_))))))
 obtain rfl := Sj c
 exact ⟨R, l, h⟩
def gen_Maker_Pick (c : List Int) (d : Int) (a : List Int) : Option (Int × Int) :=
((gen_Maker_Next c d ((a).length : Int)).bind fun b =>
((idx a b.1).bind fun e =>
some (e, b.2)))
theorem gen_Maker_Pick_w (a f h e n g i c o b j) (q : MS b [[a], j]) (x : SlR eI b (fl [[a], j]) f h e) (k : b.heap[a]? = some (.cells #[Vl f e h, Vi n] 72 (0, 0))) (m : SlR eI b (fl [[a], j]) g i c) (d : gen_Maker_Pick e n c = some o) : CallVC Tryz.prog 14 [Vp a 0, Vl g c i] b fun r s => r = Vi o.1 ∧ Ev [a] b s ∧ s.heap[a]? = some (.cells #[Vl f e h, Vi o.2] 72 (0, 0)) := by
 refine Cw hmx Tryz.func14 R R R ?_
 have l := Ev.refl [a] b
 refine Cs (Xu 1 [(4, Vi 0)] (Xk (Cs (Xu 3 [(5, Vl g c i), (6, Vp a 0), (7, Vl g c i)] (Xz tsl22 R ?_)))))
 obtain ⟨C, z, d⟩ := Bs d
 obtain ⟨w, y⟩ := Kc q [0] [1]
 have u := gen_Maker_Next_w a f h e n ((c).length : Int) _ b _ w (x.sub y) k z
 refine Xv u R ?_
 rintro r B ⟨rfl, p, v⟩
 have m := E1 (Cx.c0 q [0] p) m
 have l := l.tv p
 have k := v
 obtain ⟨t, A, d⟩ := Bs d
 refine Xq0 (m.el tsl22) tcell3 A R (fun _ => R) (fun _ => Xu 1 [(4, Vi t)] (Xk (Cr (Rz (Vi t) R ?_))))
 obtain rfl := Sj d
 exact ⟨R, l, k⟩
def gen_Maker_element (a : List Int) (l : Int) (c : Int) (m : Int) (d : Int) (e : Int) : Option ((Int × (List UInt8) × Int × Int × Int × Int × Int × Int) × Int) :=
((gen_word m).bind fun g =>
((gen_Maker_Pick a l ([1000, 5000, 9000, 12000, 30000, 100000])).bind fun h =>
((gen_Maker_Pick a h.2 ([0, 100, (-150), 400, 1000, 3500, 5000])).bind fun f =>
((gen_Maker_Pick a f.2 ([0, 0, 20, 150])).bind fun b =>
(if (c == 2) = true then
((gen_Maker_Pick a b.2 ([500000, 2000000, 8000000, 30000000])).bind fun i =>
some ((c, g, d, e, h.1, f.1, b.1, i.1), i.2))
else
(if (c == 4) = true then
((gen_Maker_Pick a b.2 ([100000, 400000, 700000])).bind fun j =>
((gen_Maker_Pick a j.2 ([(-100), 0, 50, 150])).bind fun k =>
some ((c, g, d, e, j.1, k.1, b.1, 0), k.2)))
else
some ((c, g, d, e, h.1, f.1, b.1, 0), b.2)))))))
theorem gen_Maker_element_w (m B C z K k J p q A F L) (a : MS F [[m], L]) (g : SlR eI F (fl [[m], L]) B C z) (d : F.heap[m]? = some (.cells #[Vl B z C, Vi K] 72 (0, 0))) (i : gen_Maker_element z K k J p q = some A) : CallVC Tryz.prog 31 [Vp m 0, Vi k, Vi J, Vi p, Vi q] F fun E ai => E = .agg #[Vi A.1.1, Vs A.1.2.1, Vi A.1.2.2.1, Vi A.1.2.2.2.1, Vi A.1.2.2.2.2.1, Vi A.1.2.2.2.2.2.1, Vi A.1.2.2.2.2.2.2.1, Vi A.1.2.2.2.2.2.2.2] ∧ Ev [m] F ai ∧ ai.heap[m]? = some (.cells #[Vl B z C, Vi A.2] 72 (0, 0)) := by
 refine Cw hmx Tryz.func31 R R R ?_
 have c := Ev.refl [m] F
 have v := FR.nil F.heap.size
 refine Cs (Xj #[Vi 0, Vs ([] : List UInt8), Vi 0, Vi 0, Vi 0, Vi 0, Vi 0, Vi 0] R (fun N bn ah f aK => ?_))
 have v := v.box c.size ah
 obtain ⟨g, d, a, c⟩ := E4 (Cx.b a aK ah f) g d a c
 refine Xk (Cs (Xu 2 [(12, Vi k), (13, Vi J)] ?_))
 obtain ⟨s, u, i⟩ := Bs i
 have t := gen_word_w J _ bn u
 refine Xv t R ?_
 rintro E bF ⟨rfl, aN⟩
 obtain ⟨g, d, f, a, c⟩ := E5 (Cx.e a aN) g d f a c
 refine Xu 3 [(15, Vi p), (16, Vi q), (17, Vp m 0)] (Xh #[Vi 1000, Vi 5000, Vi 9000, Vi 12000, Vi 30000, Vi 100000] 3 R (fun ap bp a5 aE aO => ?_))
 have o := Cx.e a aO
 obtain ⟨g, d, f, a, c⟩ := E5 o g d f a c
 have bi := o.l (e := eI) a5 aE 6 [1000, 5000, 9000, 12000, 30000, 100000]
 obtain ⟨y, u, i⟩ := Bs i
 obtain ⟨w, n⟩ := Kc a [1] [0, 2]
 have t := gen_Maker_Pick_w m B C z K (Ad ap 0) 6 ([1000, 5000, 9000, 12000, 30000, 100000]) _ bp _ w (g.sub n) d (bi.sub n) u
 refine Xv t R ?_
 rintro E bq ⟨rfl, O, aQ⟩
 obtain ⟨g, f, a⟩ := E3 (Cx.c0 a [1] O) g f a
 have c := c.tv O
 have d := aQ
 refine Xu 1 [(20, Vp m 0)] (Xh #[Vi 0, Vi 100, Vi (-150), Vi 400, Vi 1000, Vi 3500, Vi 5000] 3 R (fun ak bj a0 aq aF => ?_))
 have o := Cx.e a aF
 obtain ⟨g, d, f, a, c⟩ := E5 o g d f a c
 have bd := o.l (e := eI) a0 aq 7 [0, 100, (-150), 400, 1000, 3500, 5000]
 obtain ⟨x, u, i⟩ := Bs i
 obtain ⟨w, n⟩ := Kc a [1] [0, 2]
 have t := gen_Maker_Pick_w m B C z y.2 (Ad ak 0) 7 ([0, 100, (-150), 400, 1000, 3500, 5000]) _ bj _ w (g.sub n) d (bd.sub n) u
 refine Xv t R ?_
 rintro E br ⟨rfl, Q, aS⟩
 obtain ⟨g, f, a⟩ := E3 (Cx.c0 a [1] Q) g f a
 have c := c.tv Q
 have d := aS
 refine Xu 1 [(23, Vp m 0)] (Xh #[Vi 0, Vi 0, Vi 20, Vi 150] 3 R (fun al bk a1 ar aG => ?_))
 have o := Cx.e a aG
 obtain ⟨g, d, f, a, c⟩ := E5 o g d f a c
 have be := o.l (e := eI) a1 ar 4 [0, 0, 20, 150]
 obtain ⟨r, u, i⟩ := Bs i
 obtain ⟨w, n⟩ := Kc a [1] [0, 2]
 have t := gen_Maker_Pick_w m B C z x.2 (Ad al 0) 4 ([0, 0, 20, 150]) _ bk _ w (g.sub n) d (be.sub n) u
 refine Xv t R ?_
 rintro E bs ⟨rfl, S, aU⟩
 obtain ⟨g, f, a⟩ := E3 (Cx.c0 a [1] S) g f a
 have c := c.tv S
 have d := aU
 refine Xg (.agg #[Vi k, Vs s, Vi p, Vi q, Vi y.1, Vi x.1, Vi r.1, Vi 0]) R (Xj #[Vi 0, Vs ([] : List UInt8), Vi 0, Vi 0, Vi 0, Vi 0, Vi 0, Vi 0] R (fun D bt ag h aH => ?_))
 have v := v.box c.size ag
 obtain ⟨g, d, f, a, c⟩ := E5 (Cx.b a aH ag h) g d f a c
 obtain ⟨bu, a6, au, U⟩ := Sa [Vi k, Vs s, Vi p, Vi q, Vi y.1, Vi x.1, Vi r.1, Vi 0] tagg79 h R R R
 refine Xp a6 R ?_
 obtain ⟨g, d, f, a⟩ := E4 (Cx.j a 0 U) g d f a
 have c := c.th U v 0
 have h := au
 refine Xk (Cq (Cs (Xu 1 [(27, Vi k)] (Xk (Cb (Cs (Xu 2 [(29, .bool (k == 2)), (28, .bool (k == 2))] (Xk (Ci _ R i (fun i => ?_) (fun i => ?_))))))))))
 · refine Cp (Xu 1 [(30, Vp m 0)] (Xh #[Vi 500000, Vi 2000000, Vi 8000000, Vi 30000000] 3 R (fun am bl a2 av aI => ?_)))
   have o := Cx.e a aI
   obtain ⟨g, d, f, h, a, c⟩ := E6 o g d f h a c
   have bf := o.l (e := eI) a2 av 4 [500000, 2000000, 8000000, 30000000]
   obtain ⟨H, u, i⟩ := Bs i
   obtain ⟨w, n⟩ := Kc a [2] [0, 1, 3]
   have t := gen_Maker_Pick_w m B C z r.2 (Ad am 0) 4 ([500000, 2000000, 8000000, 30000000]) _ bl _ w (g.sub n) d (bf.sub n) u
   refine Xv t R ?_
   rintro E bv ⟨rfl, X, aX⟩
   obtain ⟨f, h, a⟩ := E3 (Cx.c0 a [2] X) f h a
   have c := c.tv X
   have d := aX
   refine Yf (Vp D 0) (Vp D 7) R (Rf tfld79_7 _) ?_
   obtain ⟨bw, a7, aw, Y⟩ := Sx 7 (Vi H.1) tcell3 h
   refine Xp a7 R ?_
   obtain ⟨d, f, a⟩ := E3 (Cx.j a 0 Y) d f a
   have c := c.th Y v 0
   have h := aw
   refine Xe R (Kl (Kt (Cn [(10, Vp N 0), (11, Vp D 0)] (fun aj => ?_))))
   refine Cs (Yl _ _ R (Ra 0 [Vi k, Vs s, Vi p, Vi q, Vi y.1, Vi x.1, Vi r.1, Vi H.1] tagg79 h nn R) ?_)
   obtain ⟨bx, a8, ax, Z⟩ := Sa [Vi k, Vs s, Vi p, Vi q, Vi y.1, Vi x.1, Vi r.1, Vi H.1] tagg79 f R R R
   refine Xp a8 R ?_
   have d := E1 (Cx.j a 1 Z) d
   have c := c.th Z v 1
   have f := ax
   refine Xk (Cr (Rr (Rv [.agg #[Vi k, Vs s, Vi p, Vi q, Vi y.1, Vi x.1, Vi r.1, Vi H.1]] ⟨⟨_, R, Lv (Ra (Mo := []) 0 [Vi k, Vs s, Vi p, Vi q, Vi y.1, Vi x.1, Vi r.1, Vi H.1] tagg79 f nn R)⟩, T0⟩ ?_)))
   obtain rfl := Sj i
   exact ⟨R, c, d⟩
 refine Cs (Xu 2 [(35, .bool (k == 4)), (34, .bool (k == 4))] (Xk (Cn [(0, Vp m 0), (10, Vp N 0), (11, Vp D 0), (34, .bool (k == 4))] (fun aj => ?_))))
 refine Ci _ R i (fun i => ?_) (fun i => ?_)
 · refine Cp (Xu 1 [(36, Vp m 0)] (Xh #[Vi 100000, Vi 400000, Vi 700000] 3 R (fun an bm a3 ay aJ => ?_)))
   have o := Cx.e a aJ
   obtain ⟨g, d, f, h, a, c⟩ := E6 o g d f h a c
   have bg := o.l (e := eI) a3 ay 3 [100000, 400000, 700000]
   obtain ⟨G, u, i⟩ := Bs i
   obtain ⟨w, n⟩ := Kc a [2] [0, 1, 3]
   have t := gen_Maker_Pick_w m B C z r.2 (Ad an 0) 3 ([100000, 400000, 700000]) _ bm _ w (g.sub n) d (bg.sub n) u
   refine Xv t R ?_
   rintro E bz ⟨rfl, aa, aY⟩
   obtain ⟨g, f, h, a⟩ := E4 (Cx.c0 a [2] aa) g f h a
   have c := c.tv aa
   have d := aY
   refine Xu 1 [(39, Vp m 0)] (Xh #[Vi (-100), Vi 0, Vi 50, Vi 150] 3 R (fun ao bo a4 az aL => ?_))
   have o := Cx.e a aL
   obtain ⟨g, d, f, h, a, c⟩ := E6 o g d f h a c
   have bh := o.l (e := eI) a4 az 4 [(-100), 0, 50, 150]
   obtain ⟨I, u, i⟩ := Bs i
   obtain ⟨w, n⟩ := Kc a [2] [0, 1, 3]
   have t := gen_Maker_Pick_w m B C z G.2 (Ad ao 0) 4 ([(-100), 0, 50, 150]) _ bo _ w (g.sub n) d (bh.sub n) u
   refine Xv t R ?_
   rintro E bA ⟨rfl, ab, aZ⟩
   obtain ⟨f, h, a⟩ := E3 (Cx.c0 a [2] ab) f h a
   have c := c.tv ab
   have d := aZ
   refine Yf (Vp D 0) (Vp D 4) R (Rf tfld79_4 _) ?_
   obtain ⟨bB, a9, aA, ac⟩ := Sx 4 (Vi G.1) tcell3 h
   refine Xp a9 R ?_
   obtain ⟨d, f, a⟩ := E3 (Cx.j a 0 ac) d f a
   have c := c.th ac v 0
   have h := aA
   refine Yf (Vp D 0) (Vp D 5) R (Rf tfld79_5 _) ?_
   obtain ⟨bC, ba, aB, ad⟩ := Sx 5 (Vi I.1) tcell3 h
   refine Xp ba R ?_
   obtain ⟨d, f, a⟩ := E3 (Cx.j a 0 ad) d f a
   have c := c.th ad v 0
   have h := aB
   refine Xe R (Kl (Kt (Cs (Yl _ _ R (Ra 0 [Vi k, Vs s, Vi p, Vi q, Vi G.1, Vi I.1, Vi r.1, Vi 0] tagg79 h nn R) ?_))))
   obtain ⟨bD, bb, aC, ae⟩ := Sa [Vi k, Vs s, Vi p, Vi q, Vi G.1, Vi I.1, Vi r.1, Vi 0] tagg79 f R R R
   refine Xp bb R ?_
   have d := E1 (Cx.j a 1 ae) d
   have c := c.th ae v 1
   have f := aC
   refine Xk (Cr (Rr (Rv [.agg #[Vi k, Vs s, Vi p, Vi q, Vi G.1, Vi I.1, Vi r.1, Vi 0]] ⟨⟨_, R, Lv (Ra (Mo := []) 0 [Vi k, Vs s, Vi p, Vi q, Vi G.1, Vi I.1, Vi r.1, Vi 0] tagg79 f nn R)⟩, T0⟩ ?_)))
   obtain rfl := Sj i
   exact ⟨R, c, d⟩
 refine Ck (Kl (Kt (Cs (Yl _ _ R (Ra 0 [Vi k, Vs s, Vi p, Vi q, Vi y.1, Vi x.1, Vi r.1, Vi 0] tagg79 h nn R) ?_))))
 obtain ⟨bE, bc, aD, af⟩ := Sa [Vi k, Vs s, Vi p, Vi q, Vi y.1, Vi x.1, Vi r.1, Vi 0] tagg79 f R R R
 refine Xp bc R ?_
 have d := E1 (Cx.j a 1 af) d
 have c := c.th af v 1
 have f := aD
 refine Xk (Cr (Rr (Rv [.agg #[Vi k, Vs s, Vi p, Vi q, Vi y.1, Vi x.1, Vi r.1, Vi 0]] ⟨⟨_, R, Lv (Ra (Mo := []) 0 [Vi k, Vs s, Vi p, Vi q, Vi y.1, Vi x.1, Vi r.1, Vi 0] tagg79 f nn R)⟩, T0⟩ ?_)))
 obtain rfl := Sj i
 exact ⟨R, c, d⟩
def gen_Maker_Layout_L22 (f : List Int) (i : Int × (List (Int × (List UInt8) × Int × Int × Int × Int × Int × Int)) × Int × Int × Int) : Option (Step (Int × (List (Int × (List UInt8) × Int × Int × Int × Int × Int × Int)) × Int × Int × Int) (Int × (List (Int × (List UInt8) × Int × Int × Int × Int × Int × Int)) × Int × Int)) :=
match i with
| (e, b, c, d, g) =>
(if (decide (g > 0)) = true then
((gen_Maker_Pick f e ([1, 1, 2])).bind fun h =>
((gen_Maker_element f h.2 h.1 ((b).length : Int) c d).bind fun a =>
(if b.length + ([(a.1.1, a.1.2.1, a.1.2.2.1, a.1.2.2.2.1, a.1.2.2.2.2.1, a.1.2.2.2.2.2.1, a.1.2.2.2.2.2.2.1, a.1.2.2.2.2.2.2.2)] : List (Int × (List UInt8) × Int × Int × Int × Int × Int × Int)).length ≤ 4294967296 then
some (.next (a.2, (b ++ ([(a.1.1, a.1.2.1, a.1.2.2.1, a.1.2.2.2.1, a.1.2.2.2.2.1, a.1.2.2.2.2.2.1, a.1.2.2.2.2.2.2.1, a.1.2.2.2.2.2.2.2)] : List (Int × (List UInt8) × Int × Int × Int × Int × Int × Int))), i64.wrap ((((b ++ ([(a.1.1, a.1.2.1, a.1.2.2.1, a.1.2.2.2.1, a.1.2.2.2.2.1, a.1.2.2.2.2.2.1, a.1.2.2.2.2.2.2.1, a.1.2.2.2.2.2.2.2)] : List (Int × (List UInt8) × Int × Int × Int × Int × Int × Int)))).length : Int) - 1), 0, i64.wrap (g - 1)))
else none)))
else
some (.done (e, b, c, d)))
def gen_Maker_Layout_L11 (e : List Int) (o : Int × (List (Int × (List UInt8) × Int × Int × Int × Int × Int × Int)) × (List (Int × Int)) × Int) : Option (Step (Int × (List (Int × (List UInt8) × Int × Int × Int × Int × Int × Int)) × (List (Int × Int)) × Int) (Int × (List (Int × (List UInt8) × Int × Int × Int × Int × Int × Int)))) :=
match o with
| (j, g, d, f) =>
(if (decide (((d).length : Int) > 0)) = true then
((idx d 0).bind fun l =>
(if (0 : Int) ≤ (1 : Int) ∧ (1 : Int) ≤ (d.length : Int) then
((gen_Maker_Next e j 3).bind fun m =>
((loop (gen_Maker_Layout_L22 e) (m.2, g, l.1, l.2, m.1)).bind fun n => match n with
| (k, c, h, i) => (if (decide (f > 0)) = true then
((gen_Maker_element e k 3 ((c).length : Int) h i).bind fun a =>
(if c.length + ([(a.1.1, a.1.2.1, a.1.2.2.1, a.1.2.2.2.1, a.1.2.2.2.2.1, a.1.2.2.2.2.2.1, a.1.2.2.2.2.2.2.1, a.1.2.2.2.2.2.2.2)] : List (Int × (List UInt8) × Int × Int × Int × Int × Int × Int)).length ≤ 4294967296 then
(if (d.drop (Int.toNat 1)).length + ([(i64.wrap ((((c ++ ([(a.1.1, a.1.2.1, a.1.2.2.1, a.1.2.2.2.1, a.1.2.2.2.2.1, a.1.2.2.2.2.2.1, a.1.2.2.2.2.2.2.1, a.1.2.2.2.2.2.2.2)] : List (Int × (List UInt8) × Int × Int × Int × Int × Int × Int)))).length : Int) - 1), 1), (i64.wrap ((((c ++ ([(a.1.1, a.1.2.1, a.1.2.2.1, a.1.2.2.2.1, a.1.2.2.2.2.1, a.1.2.2.2.2.2.1, a.1.2.2.2.2.2.2.1, a.1.2.2.2.2.2.2.2)] : List (Int × (List UInt8) × Int × Int × Int × Int × Int × Int)))).length : Int) - 1), 2)] : List (Int × Int)).length ≤ 4294967296 then
some (.next (a.2, (c ++ ([(a.1.1, a.1.2.1, a.1.2.2.1, a.1.2.2.2.1, a.1.2.2.2.2.1, a.1.2.2.2.2.2.1, a.1.2.2.2.2.2.2.1, a.1.2.2.2.2.2.2.2)] : List (Int × (List UInt8) × Int × Int × Int × Int × Int × Int))), ((d.drop (Int.toNat 1)) ++ ([(i64.wrap ((((c ++ ([(a.1.1, a.1.2.1, a.1.2.2.1, a.1.2.2.2.1, a.1.2.2.2.2.1, a.1.2.2.2.2.2.1, a.1.2.2.2.2.2.2.1, a.1.2.2.2.2.2.2.2)] : List (Int × (List UInt8) × Int × Int × Int × Int × Int × Int)))).length : Int) - 1), 1), (i64.wrap ((((c ++ ([(a.1.1, a.1.2.1, a.1.2.2.1, a.1.2.2.2.1, a.1.2.2.2.2.1, a.1.2.2.2.2.2.1, a.1.2.2.2.2.2.2.1, a.1.2.2.2.2.2.2.2)] : List (Int × (List UInt8) × Int × Int × Int × Int × Int × Int)))).length : Int) - 1), 2)] : List (Int × Int))), i64.wrap (f - 1)))
else none)
else none))
else
((gen_Maker_element e k 4 ((c).length : Int) h i).bind fun b =>
(if c.length + ([(b.1.1, b.1.2.1, b.1.2.2.1, b.1.2.2.2.1, b.1.2.2.2.2.1, b.1.2.2.2.2.2.1, b.1.2.2.2.2.2.2.1, b.1.2.2.2.2.2.2.2)] : List (Int × (List UInt8) × Int × Int × Int × Int × Int × Int)).length ≤ 4294967296 then
some (.next (b.2, (c ++ ([(b.1.1, b.1.2.1, b.1.2.2.1, b.1.2.2.2.1, b.1.2.2.2.2.1, b.1.2.2.2.2.2.1, b.1.2.2.2.2.2.2.1, b.1.2.2.2.2.2.2.2)] : List (Int × (List UInt8) × Int × Int × Int × Int × Int × Int))), (d.drop (Int.toNat 1)), f))
else none)))))
else none))
else
some (.done (j, g)))
def gen_Maker_Layout (a : List Int) (f : Int) (g : Int) : Option ((List (Int × (List UInt8) × Int × Int × Int × Int × Int × Int)) × Int) :=
((gen_word 0).bind fun h =>
((gen_Maker_Next a f (i64.wrap (g + 1))).bind fun b =>
((loop (gen_Maker_Layout_L11 a) (b.2, ([(0, h, (-1), 0, 0, 0, 0, 0)] : List (Int × (List UInt8) × Int × Int × Int × Int × Int × Int)), ([(0, 0)] : List (Int × Int)), b.1)).bind fun c => match c with
| (e, d) => some (d, e))))
theorem gen_Maker_Layout_w (o D E B aK au aB I L) (c : MS I [[o], L]) (f : SlR eI I (fl [[o], L]) D E B) (m : I.heap[o]? = some (.cells #[Vl D B E, Vi aK] 72 (0, 0))) (i : gen_Maker_Layout B aK au = some aB) : CallVC Tryz.prog 6 [Vp o 0, Vi au] I fun af y => ∃ am aQ, af = Vl am aB.1 aQ ∧ Ev [o] I y ∧ y.heap[o]? = some (.cells #[Vl D B E, Vi aB.2] 72 (0, 0)) ∧ MS y [Bk am, [o], L] ∧ FR I.heap.size [Bk am] ∧ OwnS (eProd eI (eProd eStr (eProd eI (eProd eI (eIt4))))) 79 y (fl [Bk am, [o], L]) am aQ aB.1 := by
 refine Cw hmx Tryz.func6 R R R ?_
 have g := Ev.refl [o] I
 have q := FR.nil I.heap.size
 refine Cs (Xu 1 [(4, Z0)] (Xk (Cs ?_)))
 obtain ⟨av, G, i⟩ := Bs i
 have F := gen_word_w 0 _ I G
 refine Xv F R ?_
 rintro af cU ⟨rfl, bG⟩
 obtain ⟨f, m, c, g⟩ := E4 (Cx.e c bG) f m c g
 refine Xg (.agg #[Vi 0, Vs av, Vi (-1), Vi 0, Vi 0, Vi 0, Vi 0, Vi 0]) R (Xh #[Vi 0, Vs av, Vi (-1), Vi 0, Vi 0, Vi 0, Vi 0, Vi 0] 79 R (fun cy c3 b2 bz a8 => ?_))
 obtain ⟨ay, bm, cn, be⟩ := Ol (e := (eProd eI (eProd eStr (eProd eI (eProd eI (eIt4)))))) b2 bz 1 [(0, av, (-1), 0, 0, 0, 0, 0)]
 obtain ⟨f, m, c⟩ := E3 (Cx.p c a8 be) f m c
 have q := q.push (fun b aF => Nat.le_trans g.size (be b aF).1)
 have g := g.ext a8
 have k := cn (fl [Bk ay, [o], L])
 rw [← bm]
 refine Xu 1 [(5, Vl ay (([(0, av, (-1), 0, 0, 0, 0, 0)] : List (Int × (List UInt8) × Int × Int × Int × Int × Int × Int))) 1)] (Xk (Cs (Xg (.agg #[Vi 0, Vi 0]) R (Xh #[Vi 0, Vi 0] 88 R (fun cz ct b3 bA a9 => ?_)))))
 obtain ⟨az, bn, co, bf⟩ := Ol (e := (eProd eI eI)) b3 bA 1 [(0, 0)]
 obtain ⟨f, m, k, c⟩ := E4 (Cx.p c a9 bf) f m k c
 have q := q.push (fun b aF => Nat.le_trans g.size (bf b aF).1)
 have g := g.ext a9
 have h := co (fl [Bk az, Bk ay, [o], L])
 rw [← bn]
 have h := OwnS.tailB h
 refine Xu 1 [(6, Vl az (([(0, 0)] : List (Int × Int))) 1)] (Xk (Cs (Xu 3 [(16, Vp o 0), (17, Vi au), (18, Vi (i64.wrap (au + 1)))] ?_)))
 obtain ⟨aN, G, i⟩ := Bs i
 obtain ⟨Q, K⟩ := Kc c [2] [0, 1, 3]
 have F := gen_Maker_Next_w o D E B aK (i64.wrap (au + 1)) _ ct _ Q (f.sub K) m G
 refine Xv F R ?_
 rintro af cG ⟨rfl, aU, bL⟩
 obtain ⟨f, k, h, c⟩ := E4 (Cx.c0 c [2] aU) f k h c
 have g := g.tv aU
 have m := bL
 refine Xu 1 [(7, Vi aN.1)] (Xk (Cq (Cb ?_)))
 obtain ⟨f, k, h, c⟩ := E4 (Cx.s c [1, 0, 2, 3]) f k h c
 have q := q.px [1, 0]
 obtain ⟨bk, aG, bo⟩ := Bs i
 obtain ⟨ak, aG⟩ := Lo aG
 refine Cl (Lr hmx (σ := Nat × Int × (List (Int × (List UInt8) × Int × Int × Int × Int × Int × Int)) × (List (Int × Int)) × Int × Option Addr × Nat × Option Addr × Nat × List Nat) (fun S => match S with | (_, ap, O, x, A, z, N, aa, ac, U) => [(0, Vp o 0), (5, Vl z O N), (6, Vl aa x ac), (7, Vi A)]) (fun S y => match S with | (aJ, ap, O, x, A, z, N, aa, ac, U) => loopN (gen_Maker_Layout_L11 B) aJ (ap, O, x, A) = some bk ∧ Ev [o] I y ∧ (fun ae => MS y ae ∧ FR I.heap.size [Bk z, U] ∧ SlR eI y (fl ae) D E B ∧ y.heap[o]? = some (.cells #[Vl D B E, Vi ap] 72 (0, 0)) ∧ OwnS (eProd eI (eProd eStr (eProd eI (eProd eI (eIt4))))) 79 y (fl ae) z N O ∧ OwnB (eProd eI eI) 88 y (fl ae) U aa ac x) [Bk z, U, [o], L]) (fun S => S.1) (ak, aN.2, ([(0, av, (-1), 0, 0, 0, 0, 0)] : List (Int × (List UInt8) × Int × Int × Int × Int × Int × Int)), ([(0, 0)] : List (Int × Int)), aN.1, ay, 1, az, 1, (Bk az)) ⟨R, R, R, R, T0⟩ ⟨aG, g, c, q, f, m, k, h⟩ ?_)
 rintro ⟨ak, ap, O, x, A, z, N, aa, ac, U⟩ ag c4 ⟨aj, g, c, q, f, m, k, h⟩
 rcases ak with _ | ak
 · exact (Lz aj).elim
 obtain ⟨cE, i, aj⟩ := Bs aj
 refine Cq (Cs (Xu 1 [(20, Vl aa x ac)] (Xz tsl89 R (Xu 1 [(22, Bd (((x).length : Int) > 0))] (Xk (Cn [(0, Vp o 0), (5, Vl z O N), (6, Vl aa x ac), (7, Vi A), (22, Bd (((x).length : Int) > 0))] (fun ag => ?_)))))))
 refine Ci _ R i (fun i => ?_) (fun i => ?_)
 · refine Ck (Kt (Cb (Cs (Xu 1 [(23, Vl aa x ac)] ?_))))
   obtain ⟨al, cp, i⟩ := Bs i
   obtain ⟨bi, cA, b4, _, bB, bq⟩ := ownB_index (Mo := []) tsl89 h cp
   obtain ⟨_, _, rfl, rfl, rfl⟩ := bq
   refine Yi _ _ _ R b4 (Yl (.pointer (some bi)) (.agg #[Vi al.1, Vi al.2]) R (reads_agg tagg88 bB (fun _ i => by cases i)) ?_)
   refine Xj #[Vi 0, Vi 0] R (fun w cH bg t bC => ?_)
   have q := q.box g.size bg
   obtain ⟨m, f, k, h, c, g⟩ := E6 (Cx.b c bC bg t) m f k h c g
   obtain ⟨cq, b5, br, aX⟩ := Sa [Vi al.1, Vi al.2] tagg88 t R R R
   refine Xp b5 R ?_
   obtain ⟨m, f, k, h, c⟩ := E5 (Cx.j c 0 aX) m f k h c
   have g := g.th aX q 0
   have t := br
   refine Xk (Cs (Xu 1 [(26, Vl aa x ac)] ?_))
   have ad := Gl i
   have i := Gr i
   obtain ⟨Z, ab, b6, cc⟩ := ownB_cut (P := Tryz.prog) (Mo := []) tsl89 h 1 ad
   refine x_slice (xv := Vl aa x ac) (lv := some (Vi 1)) (hv := none) (mv := none) (Vl Z ((x.drop (Int.toNat 1))) ab) R R R R R R b6 ?_
   have h := cc
   refine Xu 1 [(6, Vl Z ((x.drop (Int.toNat 1))) ab)] (Xk (Cq (Cs (Xu 1 [(28, Vp o 0)] ?_))))
   obtain ⟨aL, G, i⟩ := Bs i
   obtain ⟨Q, K⟩ := Kc c [3] [0, 1, 2, 4]
   have F := gen_Maker_Next_w o D E B ap 3 _ cq _ Q (f.sub K) m G
   refine Xv F R ?_
   rintro af cI ⟨rfl, aY, bN⟩
   obtain ⟨f, k, h, t, c⟩ := E5 (Cx.c0 c [3] aY) f k h t c
   have g := g.tv aY
   have m := bN
   refine Xu 1 [(9, Vi aL.1)] (Xk (Cb ?_))
   obtain ⟨f, k, h, c⟩ := E4 (Cx.s c [1, 2, 0, 3, 4]) f k h c
   have q := q.px [1, 2, 0]
   obtain ⟨bl, aH, bp⟩ := Bs i
   obtain ⟨ar, aH⟩ := Lo aH
   refine Cl (Lr hmx (σ := Nat × Int × (List (Int × (List UInt8) × Int × Int × Int × Int × Int × Int)) × Int × Int × Int × Option Addr × Nat) (fun S => match S with | (_, ah, n, X, Y, H, C, J) => [(0, Vp o 0), (5, Vl C n J), (6, Vl Z ((x.drop (Int.toNat 1))) ab), (7, Vi A), (8, Vp w 0), (9, Vi H)]) (fun S y => match S with | (aJ, ah, n, X, Y, H, C, J) => loopN (gen_Maker_Layout_L22 B) aJ (ah, n, X, Y, H) = some bl ∧ Ev [o] I y ∧ (fun ae => MS y ae ∧ FR I.heap.size [Bk C, U, [w]] ∧ SlR eI y (fl ae) D E B ∧ y.heap[o]? = some (.cells #[Vl D B E, Vi ah] 72 (0, 0)) ∧ OwnS (eProd eI (eProd eStr (eProd eI (eProd eI (eIt4))))) 79 y (fl ae) C J n ∧ OwnB (eProd eI eI) 88 y (fl ae) U Z ab (x.drop (Int.toNat 1)) ∧ y.heap[w]? = some (.cells #[Vi X, Vi Y] 88 (0, 0))) [Bk C, U, [w], [o], L]) (fun S => S.1) (ar, aL.2, O, al.1, al.2, aL.1, z, N) ⟨R, R, R, R, R, R, T0⟩ ⟨aH, g, c, q, f, m, k, h, t⟩ ?_)
   rintro ⟨ar, ah, n, X, Y, H, C, J⟩ ag bh ⟨aq, g, c, q, f, m, k, h, t⟩
   rcases ar with _ | ar
   · exact (Lz aq).elim
   obtain ⟨cF, i, aq⟩ := Bs aq
   refine Cq (Cs (Xu 2 [(30, Vi H), (31, Bd (H > 0))] (Xk (Cn [(0, Vp o 0), (5, Vl C n J), (6, Vl Z ((x.drop (Int.toNat 1))) ab), (7, Vi A), (8, Vp w 0), (9, Vi H), (31, Bd (H > 0))] (fun ag => ?_)))))
   refine Ci _ R i (fun i => ?_) (fun i => ?_)
   · refine Ck (Kt (Cq (Cb (Cs (Xu 1 [(34, Vp o 0)] (Xh #[Vi 1, Vi 1, Vi 2] 3 R (fun bj cr bX bs bD => ?_)))))))
     have v := Cx.e c bD
     obtain ⟨m, f, k, h, t, c, g⟩ := E7 v m f k h t c g
     have cd := v.l (e := eI) bX bs 3 [1, 1, 2]
     obtain ⟨aC, G, i⟩ := Bs i
     obtain ⟨Q, K⟩ := Kc c [3] [0, 1, 2, 4]
     have F := gen_Maker_Pick_w o D E B ah (Ad bj 0) 3 ([1, 1, 2]) _ cr _ Q (f.sub K) m (cd.sub K) G
     refine Xv F R ?_
     rintro af cs ⟨rfl, aZ, bO⟩
     obtain ⟨f, k, h, t, c⟩ := E5 (Cx.c0 c [3] aZ) f k h t c
     have g := g.tv aZ
     have m := bO
     refine Xu 1 [(10, Vi aC.1)] (Xk (Cs (Xu 4 [(37, Vl C n J), (38, Vp o 0), (39, Vi aC.1), (40, Vl C n J)] (Xz tsl28 R (Yi (Vp w 0) (Vi 0) (Vp w 0) R (reads_arrAt tarr88 tcell3 w 0 0 (by decide) _) ?_)))))
     refine Yl _ (Vi X) R (Rb tcell3 t nn 0 _ R) (Yi (Vp w 0) (Vi 1) (Vp w 1) R (reads_arrAt tarr88 tcell3 w 0 1 (by decide) _) ?_)
     refine Yl _ (Vi Y) R (Rb tcell3 t nn 1 _ R) ?_
     obtain ⟨d, G, i⟩ := Bs i
     obtain ⟨Q, K⟩ := Kc c [3] [0, 1, 2, 4]
     have F := gen_Maker_element_w o D E B aC.2 aC.1 ((n).length : Int) X Y _ cs _ Q (f.sub K) m G
     refine Xv F R ?_
     rintro af cJ ⟨rfl, a0, bQ⟩
     obtain ⟨f, k, h, t, c⟩ := E5 (Cx.c0 c [3] a0) f k h t c
     have g := g.tv a0
     have m := bQ
     refine Xh #[Vi d.1.1, Vs d.1.2.1, Vi d.1.2.2.1, Vi d.1.2.2.2.1, Vi d.1.2.2.2.2.1, Vi d.1.2.2.2.2.2.1, Vi d.1.2.2.2.2.2.2.1, Vi d.1.2.2.2.2.2.2.2] 79 R (fun cu cK bY bt bE => ?_)
     have v := Cx.e c bE
     obtain ⟨m, f, k, h, t, c, g⟩ := E7 v m f k h t c g
     have ce := v.l (e := (eProd eI (eProd eStr (eProd eI (eProd eI (eIt4)))))) bY bt 1 [(d.1.1, d.1.2.1, d.1.2.2.1, d.1.2.2.2.1, d.1.2.2.2.2.1, d.1.2.2.2.2.2.1, d.1.2.2.2.2.2.2.1, d.1.2.2.2.2.2.2.2)]
     have ad := Gl i
     have i := Gr i
     obtain ⟨aw, aA, cL, b7, a1, ba, cB, cj⟩ := own_appendN tel28 28 k (Mf 0 R) ce ad
     refine Xx R (Rn b7) ?_
     have v := Cx.u c 0 a1 ba
     obtain ⟨m, f, h, t, c⟩ := E5 v m f h t c
     have ai := q.ux 0 g ba
     have g := g.th a1 q 0
     have q := ai
     have k := cj _ v.st.new
     refine Xu 1 [(5, Vl aw ((n ++ ([(d.1.1, d.1.2.1, d.1.2.2.1, d.1.2.2.2.1, d.1.2.2.2.2.1, d.1.2.2.2.2.2.1, d.1.2.2.2.2.2.2.1, d.1.2.2.2.2.2.2.2)] : List (Int × (List UInt8) × Int × Int × Int × Int × Int × Int)))) aA)] (Xk (Cp (Xu 1 [(49, Vl aw ((n ++ ([(d.1.1, d.1.2.1, d.1.2.2.1, d.1.2.2.2.1, d.1.2.2.2.2.1, d.1.2.2.2.2.2.1, d.1.2.2.2.2.2.2.1, d.1.2.2.2.2.2.2.2)] : List (Int × (List UInt8) × Int × Int × Int × Int × Int × Int)))) aA)] (Xz tsl28 R (Xu 1 [(51, Vi (i64.wrap ((((n ++ ([(d.1.1, d.1.2.1, d.1.2.2.1, d.1.2.2.2.1, d.1.2.2.2.2.1, d.1.2.2.2.2.2.1, d.1.2.2.2.2.2.2.1, d.1.2.2.2.2.2.2.2)] : List (Int × (List UInt8) × Int × Int × Int × Int × Int × Int)))).length : Int) - 1)))] (Xg (.agg #[Vi (i64.wrap ((((n ++ ([(d.1.1, d.1.2.1, d.1.2.2.1, d.1.2.2.2.1, d.1.2.2.2.2.1, d.1.2.2.2.2.2.1, d.1.2.2.2.2.2.2.1, d.1.2.2.2.2.2.2.2)] : List (Int × (List UInt8) × Int × Int × Int × Int × Int × Int)))).length : Int) - 1)), Vi 0]) R ?_))))))
     obtain ⟨cN, b8, bu, a2⟩ := Sa [Vi (i64.wrap ((((n ++ ([(d.1.1, d.1.2.1, d.1.2.2.1, d.1.2.2.2.1, d.1.2.2.2.2.1, d.1.2.2.2.2.2.1, d.1.2.2.2.2.2.2.1, d.1.2.2.2.2.2.2.2)] : List (Int × (List UInt8) × Int × Int × Int × Int × Int × Int)))).length : Int) - 1)), Vi 0] tagg88 t R R R
     refine Xp b8 R ?_
     obtain ⟨m, f, k, h, c⟩ := E5 (Cx.j c 2 a2) m f k h c
     have g := g.th a2 q 2
     have t := bu
     refine Xe R (Kl (Kt (Cn [(0, Vp o 0), (5, Vl aw ((n ++ ([(d.1.1, d.1.2.1, d.1.2.2.1, d.1.2.2.2.1, d.1.2.2.2.2.1, d.1.2.2.2.2.2.1, d.1.2.2.2.2.2.2.1, d.1.2.2.2.2.2.2.2)] : List (Int × (List UInt8) × Int × Int × Int × Int × Int × Int)))) aA), (6, Vl Z ((x.drop (Int.toNat 1))) ab), (7, Vi A), (8, Vp w 0), (9, Vi H)] (fun ag => ?_))))
     refine Cp (Xu 3 [(32, Vi H), (33, Vi (i64.wrap (H - 1))), (9, Vi (i64.wrap (H - 1)))] (Xe R ?_))
     obtain rfl := Sj i
     exact Kt ⟨(ar, d.2, (n ++ ([(d.1.1, d.1.2.1, d.1.2.2.1, d.1.2.2.2.1, d.1.2.2.2.2.1, d.1.2.2.2.2.2.1, d.1.2.2.2.2.2.2.1, d.1.2.2.2.2.2.2.2)] : List (Int × (List UInt8) × Int × Int × Int × Int × Int × Int))), i64.wrap ((((n ++ ([(d.1.1, d.1.2.1, d.1.2.2.1, d.1.2.2.2.1, d.1.2.2.2.2.1, d.1.2.2.2.2.2.1, d.1.2.2.2.2.2.2.1, d.1.2.2.2.2.2.2.2)] : List (Int × (List UInt8) × Int × Int × Int × Int × Int × Int)))).length : Int) - 1), 0, i64.wrap (H - 1), aw, aA), ⟨R, R, R, R, R, R, T0⟩, ⟨aq, g, c, q, f, m, k, h, t⟩, Ns _⟩
   refine Ce (Ke ?_)
   obtain rfl := Sj i
   have aI := Sj aq
   subst aI
   have i := bp
   refine Ke (Ki (Kt (Cn [(0, Vp o 0), (5, Vl C n J), (6, Vl Z ((x.drop (Int.toNat 1))) ab), (7, Vi A), (8, Vp w 0)] (fun ag => ?_))))
   refine Cq (Cs (Xu 2 [(53, Vi A), (54, Bd (A > 0))] (Xk (Ci _ R i (fun i => ?_) (fun i => ?_)))))
   · refine Cs (Xu 3 [(55, Vi A), (56, Vi (i64.wrap (A - 1))), (7, Vi (i64.wrap (A - 1)))] (Xk (Cs (Xu 3 [(57, Vl C n J), (58, Vp o 0), (59, Vl C n J)] (Xz tsl28 R (Yi (Vp w 0) (Vi 0) (Vp w 0) R (reads_arrAt tarr88 tcell3 w 0 0 (by decide) _) ?_))))))
     refine Yl _ (Vi X) R (Rb tcell3 t nn 0 _ R) (Yi (Vp w 0) (Vi 1) (Vp w 1) R (reads_arrAt tarr88 tcell3 w 0 1 (by decide) _) ?_)
     refine Yl _ (Vi Y) R (Rb tcell3 t nn 1 _ R) ?_
     obtain ⟨a, G, i⟩ := Bs i
     obtain ⟨Q, K⟩ := Kc c [3] [0, 1, 2, 4]
     have F := gen_Maker_element_w o D E B ah 3 ((n).length : Int) X Y _ bh _ Q (f.sub K) m G
     refine Xv F R ?_
     rintro af cO ⟨rfl, a3, bS⟩
     obtain ⟨f, k, h, c⟩ := E4 (Cx.c0 c [3] a3) f k h c
     have g := g.tv a3
     have m := bS
     refine Xh #[Vi a.1.1, Vs a.1.2.1, Vi a.1.2.2.1, Vi a.1.2.2.2.1, Vi a.1.2.2.2.2.1, Vi a.1.2.2.2.2.2.1, Vi a.1.2.2.2.2.2.2.1, Vi a.1.2.2.2.2.2.2.2] 79 R (fun cv cQ bZ bv bF => ?_)
     have v := Cx.e c bF
     obtain ⟨m, f, k, h, c, g⟩ := E6 v m f k h c g
     have cf := v.l (e := (eProd eI (eProd eStr (eProd eI (eProd eI (eIt4)))))) bZ bv 1 [(a.1.1, a.1.2.1, a.1.2.2.1, a.1.2.2.2.1, a.1.2.2.2.2.1, a.1.2.2.2.2.2.1, a.1.2.2.2.2.2.2.1, a.1.2.2.2.2.2.2.2)]
     have ad := Gl i
     have i := Gr i
     obtain ⟨an, ao, cS, b9, a4, bb, cC, ck⟩ := own_appendN tel28 28 k (Mf 0 R) cf ad
     refine Xx R (Rn b9) ?_
     have v := Cx.u c 0 a4 bb
     obtain ⟨m, f, h, c⟩ := E4 v m f h c
     have ai := q.ux 0 g bb
     have g := g.th a4 q 0
     have q := ai
     have k := ck _ v.st.new
     refine Xu 1 [(5, Vl an ((n ++ ([(a.1.1, a.1.2.1, a.1.2.2.1, a.1.2.2.2.1, a.1.2.2.2.2.1, a.1.2.2.2.2.2.1, a.1.2.2.2.2.2.2.1, a.1.2.2.2.2.2.2.2)] : List (Int × (List UInt8) × Int × Int × Int × Int × Int × Int)))) ao)] (Xk (Cs (Xu 2 [(68, Vl Z ((x.drop (Int.toNat 1))) ab), (69, Vl an ((n ++ ([(a.1.1, a.1.2.1, a.1.2.2.1, a.1.2.2.2.1, a.1.2.2.2.2.1, a.1.2.2.2.2.2.1, a.1.2.2.2.2.2.2.1, a.1.2.2.2.2.2.2.2)] : List (Int × (List UInt8) × Int × Int × Int × Int × Int × Int)))) ao)] (Xz tsl28 R (Xu 1 [(71, Vi (i64.wrap ((((n ++ ([(a.1.1, a.1.2.1, a.1.2.2.1, a.1.2.2.2.1, a.1.2.2.2.2.1, a.1.2.2.2.2.2.1, a.1.2.2.2.2.2.2.1, a.1.2.2.2.2.2.2.2)] : List (Int × (List UInt8) × Int × Int × Int × Int × Int × Int)))).length : Int) - 1)))] (Xg (.agg #[Vi (i64.wrap ((((n ++ ([(a.1.1, a.1.2.1, a.1.2.2.1, a.1.2.2.2.1, a.1.2.2.2.2.1, a.1.2.2.2.2.2.1, a.1.2.2.2.2.2.2.1, a.1.2.2.2.2.2.2.2)] : List (Int × (List UInt8) × Int × Int × Int × Int × Int × Int)))).length : Int) - 1)), Vi 1]) R (Xu 1 [(73, Vl an ((n ++ ([(a.1.1, a.1.2.1, a.1.2.2.1, a.1.2.2.2.1, a.1.2.2.2.2.1, a.1.2.2.2.2.2.1, a.1.2.2.2.2.2.2.1, a.1.2.2.2.2.2.2.2)] : List (Int × (List UInt8) × Int × Int × Int × Int × Int × Int)))) ao)] (Xz tsl28 R (Xu 1 [(75, Vi (i64.wrap ((((n ++ ([(a.1.1, a.1.2.1, a.1.2.2.1, a.1.2.2.2.1, a.1.2.2.2.2.1, a.1.2.2.2.2.2.1, a.1.2.2.2.2.2.2.1, a.1.2.2.2.2.2.2.2)] : List (Int × (List UInt8) × Int × Int × Int × Int × Int × Int)))).length : Int) - 1)))] ?_)))))))))
     refine Xg (.agg #[Vi (i64.wrap ((((n ++ ([(a.1.1, a.1.2.1, a.1.2.2.1, a.1.2.2.2.1, a.1.2.2.2.2.1, a.1.2.2.2.2.2.1, a.1.2.2.2.2.2.2.1, a.1.2.2.2.2.2.2.2)] : List (Int × (List UInt8) × Int × Int × Int × Int × Int × Int)))).length : Int) - 1)), Vi 2]) R (Xh #[Vi (i64.wrap ((((n ++ ([(a.1.1, a.1.2.1, a.1.2.2.1, a.1.2.2.2.1, a.1.2.2.2.2.1, a.1.2.2.2.2.2.1, a.1.2.2.2.2.2.2.1, a.1.2.2.2.2.2.2.2)] : List (Int × (List UInt8) × Int × Int × Int × Int × Int × Int)))).length : Int) - 1)), Vi 1, Vi (i64.wrap ((((n ++ ([(a.1.1, a.1.2.1, a.1.2.2.1, a.1.2.2.2.1, a.1.2.2.2.2.1, a.1.2.2.2.2.2.1, a.1.2.2.2.2.2.2.1, a.1.2.2.2.2.2.2.2)] : List (Int × (List UInt8) × Int × Int × Int × Int × Int × Int)))).length : Int) - 1)), Vi 2] 88 R (fun cw cX b0 bw bH => ?_))
     have v := Cx.e c bH
     obtain ⟨m, f, k, h, c, g⟩ := E6 v m f k h c g
     have cg := v.l (e := (eProd eI eI)) b0 bw 2 [(i64.wrap ((((n ++ ([(a.1.1, a.1.2.1, a.1.2.2.1, a.1.2.2.2.1, a.1.2.2.2.2.1, a.1.2.2.2.2.2.1, a.1.2.2.2.2.2.2.1, a.1.2.2.2.2.2.2.2)] : List (Int × (List UInt8) × Int × Int × Int × Int × Int × Int)))).length : Int) - 1), 1), (i64.wrap ((((n ++ ([(a.1.1, a.1.2.1, a.1.2.2.1, a.1.2.2.2.1, a.1.2.2.2.2.1, a.1.2.2.2.2.2.1, a.1.2.2.2.2.2.2.1, a.1.2.2.2.2.2.2.2)] : List (Int × (List UInt8) × Int × Int × Int × Int × Int × Int)))).length : Int) - 1), 2)]
     have ad := Gl i
     have i := Gr i
     obtain ⟨ax, aE, cY, ca, a5, bc, cl⟩ := ownB_append tel89 89 h (Mf 1 R) cg ad
     refine Xx R (Rn ca) ?_
     have v := Cx.u c 1 a5 bc
     obtain ⟨m, f, k, c⟩ := E4 v m f k c
     have ai := q.ux 1 g bc
     have g := g.th a5 q 1
     have q := ai
     have h := cl _ v.st.new
     refine Xu 1 [(6, Vl ax (((x.drop (Int.toNat 1)) ++ ([(i64.wrap ((((n ++ ([(a.1.1, a.1.2.1, a.1.2.2.1, a.1.2.2.2.1, a.1.2.2.2.2.1, a.1.2.2.2.2.2.1, a.1.2.2.2.2.2.2.1, a.1.2.2.2.2.2.2.2)] : List (Int × (List UInt8) × Int × Int × Int × Int × Int × Int)))).length : Int) - 1), 1), (i64.wrap ((((n ++ ([(a.1.1, a.1.2.1, a.1.2.2.1, a.1.2.2.2.1, a.1.2.2.2.2.1, a.1.2.2.2.2.2.1, a.1.2.2.2.2.2.2.1, a.1.2.2.2.2.2.2.2)] : List (Int × (List UInt8) × Int × Int × Int × Int × Int × Int)))).length : Int) - 1), 2)] : List (Int × Int)))) aE)] (Xk (Cn [(0, Vp o 0), (5, Vl an ((n ++ ([(a.1.1, a.1.2.1, a.1.2.2.1, a.1.2.2.2.1, a.1.2.2.2.2.1, a.1.2.2.2.2.2.1, a.1.2.2.2.2.2.2.1, a.1.2.2.2.2.2.2.2)] : List (Int × (List UInt8) × Int × Int × Int × Int × Int × Int)))) ao), (6, Vl ax (((x.drop (Int.toNat 1)) ++ ([(i64.wrap ((((n ++ ([(a.1.1, a.1.2.1, a.1.2.2.1, a.1.2.2.2.1, a.1.2.2.2.2.1, a.1.2.2.2.2.2.1, a.1.2.2.2.2.2.2.1, a.1.2.2.2.2.2.2.2)] : List (Int × (List UInt8) × Int × Int × Int × Int × Int × Int)))).length : Int) - 1), 1), (i64.wrap ((((n ++ ([(a.1.1, a.1.2.1, a.1.2.2.1, a.1.2.2.2.1, a.1.2.2.2.2.1, a.1.2.2.2.2.2.1, a.1.2.2.2.2.2.2.1, a.1.2.2.2.2.2.2.2)] : List (Int × (List UInt8) × Int × Int × Int × Int × Int × Int)))).length : Int) - 1), 2)] : List (Int × Int)))) aE), (7, Vi (i64.wrap (A - 1)))] (fun ag => ?_)))
     refine Ce (Ke (Ki ?_))
     obtain rfl := Sj i
     obtain ⟨f, k, h, c⟩ := E4 (Cx.s c [0, 1, 3, 4]) f k h c
     have q := q.px [0, 1]
     exact Kt ⟨(ak, a.2, (n ++ ([(a.1.1, a.1.2.1, a.1.2.2.1, a.1.2.2.2.1, a.1.2.2.2.2.1, a.1.2.2.2.2.2.1, a.1.2.2.2.2.2.2.1, a.1.2.2.2.2.2.2.2)] : List (Int × (List UInt8) × Int × Int × Int × Int × Int × Int))), ((x.drop (Int.toNat 1)) ++ ([(i64.wrap ((((n ++ ([(a.1.1, a.1.2.1, a.1.2.2.1, a.1.2.2.2.1, a.1.2.2.2.2.1, a.1.2.2.2.2.2.1, a.1.2.2.2.2.2.2.1, a.1.2.2.2.2.2.2.2)] : List (Int × (List UInt8) × Int × Int × Int × Int × Int × Int)))).length : Int) - 1), 1), (i64.wrap ((((n ++ ([(a.1.1, a.1.2.1, a.1.2.2.1, a.1.2.2.2.1, a.1.2.2.2.2.1, a.1.2.2.2.2.2.1, a.1.2.2.2.2.2.2.1, a.1.2.2.2.2.2.2.2)] : List (Int × (List UInt8) × Int × Int × Int × Int × Int × Int)))).length : Int) - 1), 2)] : List (Int × Int))), i64.wrap (A - 1), an, ao, ax, aE, (Bk ax)), ⟨R, R, R, R, T0⟩, ⟨aj, g, c, q, f, m, k, h⟩, Ns _⟩
   refine Ck (Kt (Cp (Xu 3 [(79, Vl C n J), (80, Vp o 0), (81, Vl C n J)] (Xz tsl28 R (Yi (Vp w 0) (Vi 0) (Vp w 0) R (reads_arrAt tarr88 tcell3 w 0 0 (by decide) _) ?_)))))
   refine Yl _ (Vi X) R (Rb tcell3 t nn 0 _ R) (Yi (Vp w 0) (Vi 1) (Vp w 1) R (reads_arrAt tarr88 tcell3 w 0 1 (by decide) _) ?_)
   refine Yl _ (Vi Y) R (Rb tcell3 t nn 1 _ R) ?_
   obtain ⟨r, G, i⟩ := Bs i
   obtain ⟨Q, K⟩ := Kc c [3] [0, 1, 2, 4]
   have F := gen_Maker_element_w o D E B ah 4 ((n).length : Int) X Y _ bh _ Q (f.sub K) m G
   refine Xv F R ?_
   rintro af cZ ⟨rfl, a6, bU⟩
   obtain ⟨f, k, h, c⟩ := E4 (Cx.c0 c [3] a6) f k h c
   have g := g.tv a6
   have m := bU
   refine Xh #[Vi r.1.1, Vs r.1.2.1, Vi r.1.2.2.1, Vi r.1.2.2.2.1, Vi r.1.2.2.2.2.1, Vi r.1.2.2.2.2.2.1, Vi r.1.2.2.2.2.2.2.1, Vi r.1.2.2.2.2.2.2.2] 79 R (fun cx c1 b1 bx bI => ?_)
   have v := Cx.e c bI
   obtain ⟨m, f, k, h, c, g⟩ := E6 v m f k h c g
   have ch := v.l (e := (eProd eI (eProd eStr (eProd eI (eProd eI (eIt4)))))) b1 bx 1 [(r.1.1, r.1.2.1, r.1.2.2.1, r.1.2.2.2.1, r.1.2.2.2.2.1, r.1.2.2.2.2.2.1, r.1.2.2.2.2.2.2.1, r.1.2.2.2.2.2.2.2)]
   have ad := Gl i
   have i := Gr i
   obtain ⟨aO, aS, c2, cb, a7, bd, cD, cm⟩ := own_appendN tel28 28 k (Mf 0 R) ch ad
   refine Xx R (Rn cb) ?_
   have v := Cx.u c 0 a7 bd
   obtain ⟨m, f, h, c⟩ := E4 v m f h c
   have ai := q.ux 0 g bd
   have g := g.th a7 q 0
   have q := ai
   have k := cm _ v.st.new
   refine Xu 1 [(5, Vl aO ((n ++ ([(r.1.1, r.1.2.1, r.1.2.2.1, r.1.2.2.2.1, r.1.2.2.2.2.1, r.1.2.2.2.2.2.1, r.1.2.2.2.2.2.2.1, r.1.2.2.2.2.2.2.2)] : List (Int × (List UInt8) × Int × Int × Int × Int × Int × Int)))) aS)] (Xe R (Kl ?_))
   obtain rfl := Sj i
   obtain ⟨f, k, h, c⟩ := E4 (Cx.s c [0, 1, 3, 4]) f k h c
   have q := q.px [0, 1]
   exact Kt ⟨(ak, r.2, (n ++ ([(r.1.1, r.1.2.1, r.1.2.2.1, r.1.2.2.2.1, r.1.2.2.2.2.1, r.1.2.2.2.2.2.1, r.1.2.2.2.2.2.2.1, r.1.2.2.2.2.2.2.2)] : List (Int × (List UInt8) × Int × Int × Int × Int × Int × Int))), (x.drop (Int.toNat 1)), A, aO, aS, Z, ab, U), ⟨R, R, R, R, T0⟩, ⟨aj, g, c, q, f, m, k, h⟩, Ns _⟩
 refine Ce (Ke ?_)
 obtain rfl := Sj i
 have aI := Sj aj
 subst aI
 have i := bo
 refine Ke (Ki (Kt (Cn [(5, Vl z O N)] (fun ag => ?_))))
 refine Cs (Xu 2 [(90, Vl z O N), (4, Vl z O N)] (Xk (Cr (Rz (Vl z O N) R ?_))))
 obtain rfl := Sj i
 have bK := c.pk [0, 2, 3] [Bk z, [o], L] R
 have ci := Pk (ls := [Bk z, U, [o], L]) [0, 2, 3] [Bk z, [o], L] R
 have bJ := q.pk [0] [Bk z] R
 exact ⟨z, N, R, g, m, bK, bJ, k.sub ci⟩
def gen_Maker_From (c : List Int) (d : Int) (a : Int) (e : Int) : Option (Int × Int) :=
((gen_Maker_Next c d (i64.wrap ((i64.wrap (e - a)) + 1))).bind fun b =>
some (i64.wrap (a + b.1), b.2))
theorem gen_Maker_From_w (b f g e k a d l c n) (s : MS c [[b], n]) (v : SlR eI c (fl [[b], n]) f g e) (i : c.heap[b]? = some (.cells #[Vl f e g, Vi k] 72 (0, 0))) (h : gen_Maker_From e k a d = some l) : CallVC Tryz.prog 13 [Vp b 0, Vi a, Vi d] c fun o p => o = Vi l.1 ∧ Ev [b] c p ∧ p.heap[b]? = some (.cells #[Vl f e g, Vi l.2] 72 (0, 0)) := by
 refine Cw hmx Tryz.func13 R R R ?_
 have j := Ev.refl [b] c
 refine Cs (Xu 1 [(6, Vi 0)] (Xk (Cs (Xu 6 [(7, Vi a), (8, Vp b 0), (9, Vi d), (10, Vi a), (11, Vi (i64.wrap (d - a))), (12, Vi (i64.wrap ((i64.wrap (d - a)) + 1)))] ?_))))
 obtain ⟨m, x, h⟩ := Bs h
 obtain ⟨u, w⟩ := Kc s [0] [1]
 have q := gen_Maker_Next_w b f g e k (i64.wrap ((i64.wrap (d - a)) + 1)) _ c _ u (v.sub w) i x
 refine Xv q R ?_
 rintro o y ⟨rfl, r, t⟩
 have j := j.tv r
 have i := t
 refine Xu 2 [(14, Vi (i64.wrap (a + m.1))), (6, Vi (i64.wrap (a + m.1)))] (Xk (Cr (Rz (Vi (i64.wrap (a + m.1))) R ?_)))
 obtain rfl := Sj h
 exact ⟨R, j, i⟩
def gen_Maker_Table_L7 (c : List Int) (i : Int × (List (Int × Int × Int)) × Int × Int) : Option (Step (Int × (List (Int × Int × Int)) × Int × Int) (Int × (List (Int × Int × Int)))) :=
match i with
| (f, b, d, g) =>
(if (decide (g > 0)) = true then
((gen_Maker_Pick c f ([0, 10, 25, 40, 90])).bind fun a =>
((gen_Maker_Pick c a.2 ([0, 5, 40, 200])).bind fun e =>
(if b.length + ([(d, a.1, i64.wrap (a.1 + e.1))] : List (Int × Int × Int)).length ≤ 4294967296 then
((gen_Maker_From c e.2 1 70).bind fun h =>
some (.next (h.2, (b ++ ([(d, a.1, i64.wrap (a.1 + e.1))] : List (Int × Int × Int))), i64.wrap (d + h.1), i64.wrap (g - 1))))
else none)))
else
some (.done (f, b)))
def gen_Maker_Table (a : List Int) (g : Int) : Option ((List (Int × Int × Int)) × Int) :=
((gen_Maker_From a g 1 60).bind fun b =>
((gen_Maker_Next a b.2 5).bind fun c =>
((loop (gen_Maker_Table_L7 a) (c.2, ([] : List (Int × Int × Int)), b.1, i64.wrap (1 + c.1))).bind fun d => match d with
| (f, e) => some (e, f))))
theorem gen_Maker_Table_w (b v w p X L t y) (a : MS t [[b], y]) (c : SlR eI t (fl [[b], y]) v w p) (d : t.heap[b]? = some (.cells #[Vl v p w, Vi X] 72 (0, 0))) (g : gen_Maker_Table p X = some L) : CallVC Tryz.prog 12 [Vp b 0] t fun E x => ∃ F aa, E = Vl F L.1 aa ∧ Ev [b] t x ∧ x.heap[b]? = some (.cells #[Vl v p w, Vi L.2] 72 (0, 0)) ∧ MS x [Bk F, [b], y] ∧ FR t.heap.size [Bk F] ∧ OwnS (eProd eI (eProd eI eI)) 108 x (fl [Bk F, [b], y]) F aa L.1 := by
 refine Cw hmx Tryz.func12 R R R ?_
 have f := Ev.refl [b] t
 have A := FR.nil t.heap.size
 refine Cs (Xu 1 [(2, Z0)] (Xk (Cs (Xu 1 [(3, Z0)] (Xk (Cs (Xu 1 [(7, Vp b 0)] ?_)))))))
 obtain ⟨Y, C, g⟩ := Bs g
 obtain ⟨B, r⟩ := Kc a [0] [1]
 have z := gen_Maker_From_w b v w p X 1 60 _ t _ B (c.sub r) d C
 refine Xv z R ?_
 rintro E aY ⟨rfl, af, aC⟩
 obtain ⟨c, a⟩ := E2 (Cx.c0 a [0] af) c a
 have f := f.tv af
 have d := aC
 refine Xu 1 [(4, Vi Y.1)] (Xk (Cq (Cs (Xu 1 [(9, Vp b 0)] ?_))))
 obtain ⟨N, C, g⟩ := Bs g
 obtain ⟨B, r⟩ := Kc a [0] [1]
 have z := gen_Maker_Next_w b v w p Y.2 5 _ aY _ B (c.sub r) d C
 refine Xv z R ?_
 rintro E aZ ⟨rfl, ag, aD⟩
 obtain ⟨c, a⟩ := E2 (Cx.c0 a [0] ag) c a
 have f := f.tv ag
 have d := aD
 refine Xu 2 [(11, Vi (i64.wrap (1 + N.1))), (5, Vi (i64.wrap (1 + N.1)))] (Xk (Cb ?_))
 obtain ⟨c, d, a⟩ := E3 (Cx.n a) c d a
 have A := A.pn
 have ay := OwnS.nil (eProd eI (eProd eI eI)) 108 aZ (fl [Bk none, [b], y])
 obtain ⟨ak, U, al⟩ := Bs g
 obtain ⟨I, U⟩ := Lo U
 refine Cl (Lr hmx (σ := Nat × Int × (List (Int × Int × Int)) × Int × Int × Option Addr × Nat) (fun J => match J with | (_, G, m, i, o, h, q) => [(0, Vp b 0), (3, Vl h m q), (4, Vi i), (5, Vi o)]) (fun J x => match J with | (aQ, G, m, i, o, h, q) => loopN (gen_Maker_Table_L7 p) aQ (G, m, i, o) = some ak ∧ Ev [b] t x ∧ (fun Z => MS x Z ∧ FR t.heap.size [Bk h] ∧ SlR eI x (fl Z) v w p ∧ x.heap[b]? = some (.cells #[Vl v p w, Vi G] 72 (0, 0)) ∧ OwnS (eProd eI (eProd eI eI)) 108 x (fl Z) h q m) [Bk h, [b], y]) (fun J => J.1) (I, N.2, ([] : List (Int × Int × Int)), Y.1, i64.wrap (1 + N.1), none, 0) ⟨R, R, R, R, T0⟩ ⟨U, f, a, A, c, d, ay⟩ ?_)
 rintro ⟨I, G, m, i, o, h, q⟩ O a7 ⟨H, f, a, A, c, d, k⟩
 rcases I with _ | I
 · exact (Lz H).elim
 obtain ⟨a2, g, H⟩ := Bs H
 refine Cq (Cs (Xu 2 [(12, Vi o), (13, Bd (o > 0))] (Xk (Cn [(0, Vp b 0), (3, Vl h m q), (4, Vi i), (5, Vi o), (13, Bd (o > 0))] (fun O => ?_)))))
 refine Ci _ R g (fun g => ?_) (fun g => ?_)
 · refine Ck (Kt (Cq (Cb (Cs (Xu 1 [(16, Vp b 0)] (Xh #[Vi 0, Vi 10, Vi 25, Vi 40, Vi 90] 3 R (fun ai aS aE am ap => ?_)))))))
   have s := Cx.e a ap
   obtain ⟨d, c, k, a, f⟩ := E5 s d c k a f
   have aI := s.l (e := eI) aE am 5 [0, 10, 25, 40, 90]
   obtain ⟨j, C, g⟩ := Bs g
   obtain ⟨B, r⟩ := Kc a [1] [0, 2]
   have z := gen_Maker_Pick_w b v w p G (Ad ai 0) 5 ([0, 10, 25, 40, 90]) _ aS _ B (c.sub r) d (aI.sub r) C
   refine Xv z R ?_
   rintro E a3 ⟨rfl, ab, az⟩
   obtain ⟨c, k, a⟩ := E3 (Cx.c0 a [1] ab) c k a
   have f := f.tv ab
   have d := az
   refine Xu 1 [(6, Vi j.1)] (Xk (Cs (Xu 5 [(19, Vl h m q), (20, Vi i), (21, Vi j.1), (22, Vi j.1), (23, Vp b 0)] (Xh #[Vi 0, Vi 5, Vi 40, Vi 200] 3 R (fun aj aU aF an aq => ?_)))))
   have s := Cx.e a aq
   obtain ⟨d, c, k, a, f⟩ := E5 s d c k a f
   have aJ := s.l (e := eI) aF an 4 [0, 5, 40, 200]
   obtain ⟨D, C, g⟩ := Bs g
   obtain ⟨B, r⟩ := Kc a [1] [0, 2]
   have z := gen_Maker_Pick_w b v w p j.2 (Ad aj 0) 4 ([0, 5, 40, 200]) _ aU _ B (c.sub r) d (aJ.sub r) C
   refine Xv z R ?_
   rintro E a4 ⟨rfl, ac, aA⟩
   obtain ⟨c, k, a⟩ := E3 (Cx.c0 a [1] ac) c k a
   have f := f.tv ac
   have d := aA
   refine Xu 1 [(26, Vi (i64.wrap (j.1 + D.1)))] (Xg (.agg #[Vi i, Vi j.1, Vi (i64.wrap (j.1 + D.1))]) R (Xh #[Vi i, Vi j.1, Vi (i64.wrap (j.1 + D.1))] 108 R (fun a0 a5 aG ao ar => ?_)))
   have s := Cx.e a ar
   obtain ⟨d, c, k, a, f⟩ := E5 s d c k a f
   have aK := s.l (e := (eProd eI (eProd eI eI))) aG ao 1 [(i, j.1, i64.wrap (j.1 + D.1))]
   have aw := Gl g
   have g := Gr g
   obtain ⟨Q, S, aX, aH, ad, ah, a1, aN⟩ := own_appendN tel42 42 k (Mf 0 R) aK aw
   refine Xx R (Rn aH) ?_
   have s := Cx.u a 0 ad ah
   obtain ⟨d, c, a⟩ := E3 s d c a
   have av := A.ux 0 f ah
   have f := f.th ad A 0
   have A := av
   have k := aN _ s.st.new
   refine Xu 1 [(3, Vl Q ((m ++ ([(i, j.1, i64.wrap (j.1 + D.1))] : List (Int × Int × Int)))) S)] (Xk (Cp (Xu 2 [(30, Vi i), (31, Vp b 0)] ?_)))
   obtain ⟨K, C, g⟩ := Bs g
   obtain ⟨B, r⟩ := Kc a [1] [0, 2]
   have z := gen_Maker_From_w b v w p D.2 1 70 _ aX _ B (c.sub r) d C
   refine Xv z R ?_
   rintro E a6 ⟨rfl, ae, aB⟩
   obtain ⟨c, k, a⟩ := E3 (Cx.c0 a [1] ae) c k a
   have f := f.tv ae
   have d := aB
   refine Xu 2 [(33, Vi (i64.wrap (i + K.1))), (4, Vi (i64.wrap (i + K.1)))] (Xe R (Kl (Kt (Cn [(0, Vp b 0), (3, Vl Q ((m ++ ([(i, j.1, i64.wrap (j.1 + D.1))] : List (Int × Int × Int)))) S), (4, Vi (i64.wrap (i + K.1))), (5, Vi o)] (fun O => ?_)))))
   refine Cp (Xu 3 [(14, Vi o), (15, Vi (i64.wrap (o - 1))), (5, Vi (i64.wrap (o - 1)))] (Xe R ?_))
   obtain rfl := Sj g
   exact Kt ⟨(I, K.2, (m ++ ([(i, j.1, i64.wrap (j.1 + D.1))] : List (Int × Int × Int))), i64.wrap (i + K.1), i64.wrap (o - 1), Q, S), ⟨R, R, R, R, T0⟩, ⟨H, f, a, A, c, d, k⟩, Ns _⟩
 refine Ce (Ke ?_)
 obtain rfl := Sj g
 have aO := Sj H
 subst aO
 have g := al
 refine Ke (Ki (Kt (Cn [(3, Vl h m q)] (fun O => ?_))))
 refine Cs (Xu 2 [(34, Vl h m q), (2, Vl h m q)] (Xk (Cr (Rz (Vl h m q) R ?_))))
 obtain rfl := Sj g
 have ax := a.pk [0, 1, 2] [Bk h, [b], y] R
 have aL := Pk (ls := [Bk h, [b], y]) [0, 1, 2] [Bk h, [b], y] R
 have au := A.pk [0] [Bk h] R
 exact ⟨h, q, R, f, d, ax, au, k.sub aL⟩
def gen_Maker_Weather (a : List Int) (f : Int) : Option (((Int × Int) × (Int × Int)) × Int) :=
((gen_Maker_Pick a f ([(-8000), (-1000), 0, 333, 5000])).bind fun c =>
((gen_Maker_Pick a c.2 ([0, 5, 30])).bind fun b =>
((gen_Maker_Pick a b.2 ([0, 1, 2000])).bind fun d =>
((gen_Maker_Pick a d.2 ([0, 20])).bind fun e =>
some (((c.1, i64.wrap (c.1 + d.1)), (b.1, i64.wrap (b.1 + e.1))), e.2)))))
theorem gen_Maker_Weather_w (h q r p B x v C) (a : MS v [[h], C]) (g : SlR eI v (fl [[h], C]) q r p) (d : v.heap[h]? = some (.cells #[Vl q p r, Vi B] 72 (0, 0))) (o : gen_Maker_Weather p B = some x) : CallVC Tryz.prog 15 [Vp h 0] v fun z J => z = .agg #[Vi x.1.1.1, Vi x.1.1.2, Vi x.1.2.1, Vi x.1.2.2] ∧ Ev [h] v J ∧ J.heap[h]? = some (.cells #[Vl q p r, Vi x.2] 72 (0, 0)) := by
 refine Cw hmx Tryz.func15 R R R ?_
 have c := Ev.refl [h] v
 have A := FR.nil v.heap.size
 refine Cs (Xj #[Vi 0, Vi 0, Vi 0, Vi 0] R (fun N aD I f ac => ?_))
 have A := A.box c.size I
 obtain ⟨g, d, a, c⟩ := E4 (Cx.b a ac I f) g d a c
 refine Xk (Cs (Xu 1 [(5, Vp h 0)] (Xh #[Vi (-8000), Vi (-1000), Vi 0, Vi 333, Vi 5000] 3 R (fun O aw al Y ad => ?_))))
 have n := Cx.e a ad
 obtain ⟨g, d, f, a, c⟩ := E5 n g d f a c
 have aq := n.l (e := eI) al Y 5 [(-8000), (-1000), 0, 333, 5000]
 obtain ⟨k, u, o⟩ := Bs o
 obtain ⟨t, m⟩ := Kc a [1] [0, 2]
 have s := gen_Maker_Pick_w h q r p B (Ad O 0) 5 ([(-8000), (-1000), 0, 333, 5000]) _ aw _ t (g.sub m) d (aq.sub m) u
 refine Xv s R ?_
 rintro z aE ⟨rfl, H, ai⟩
 obtain ⟨g, f, a⟩ := E3 (Cx.c0 a [1] H) g f a
 have c := c.tv H
 have d := ai
 refine Xu 1 [(8, Vp h 0)] (Xh #[Vi 0, Vi 5, Vi 30] 3 R (fun Q ax am Z ae => ?_))
 have n := Cx.e a ae
 obtain ⟨g, d, f, a, c⟩ := E5 n g d f a c
 have ar := n.l (e := eI) am Z 3 [0, 5, 30]
 obtain ⟨i, u, o⟩ := Bs o
 obtain ⟨t, m⟩ := Kc a [1] [0, 2]
 have s := gen_Maker_Pick_w h q r p k.2 (Ad Q 0) 3 ([0, 5, 30]) _ ax _ t (g.sub m) d (ar.sub m) u
 refine Xv s R ?_
 rintro z az ⟨rfl, D, af⟩
 obtain ⟨g, f, a⟩ := E3 (Cx.c0 a [1] D) g f a
 have c := c.tv D
 have d := af
 refine Xu 2 [(3, Vi k.1), (4, Vi i.1)] (Xk (Cs (Xu 3 [(11, Vi k.1), (12, Vi k.1), (13, Vp h 0)] (Xh #[Vi 0, Vi 1, Vi 2000] 3 R (fun K au aj S aa => ?_)))))
 have n := Cx.e a aa
 obtain ⟨g, d, f, a, c⟩ := E5 n g d f a c
 have ao := n.l (e := eI) aj S 3 [0, 1, 2000]
 obtain ⟨w, u, o⟩ := Bs o
 obtain ⟨t, m⟩ := Kc a [1] [0, 2]
 have s := gen_Maker_Pick_w h q r p i.2 (Ad K 0) 3 ([0, 1, 2000]) _ au _ t (g.sub m) d (ao.sub m) u
 refine Xv s R ?_
 rintro z aA ⟨rfl, E, ag⟩
 obtain ⟨g, f, a⟩ := E3 (Cx.c0 a [1] E) g f a
 have c := c.tv E
 have d := ag
 refine Xu 1 [(16, Vi (i64.wrap (k.1 + w.1)))] (Xg (.agg #[Vi k.1, Vi (i64.wrap (k.1 + w.1))]) R (Xu 3 [(18, Vi i.1), (19, Vi i.1), (20, Vp h 0)] (Xh #[Vi 0, Vi 20] 3 R (fun L av ak U ab => ?_))))
 have n := Cx.e a ab
 obtain ⟨g, d, f, a, c⟩ := E5 n g d f a c
 have ap := n.l (e := eI) ak U 2 [0, 20]
 obtain ⟨y, u, o⟩ := Bs o
 obtain ⟨t, m⟩ := Kc a [1] [0, 2]
 have s := gen_Maker_Pick_w h q r p w.2 (Ad L 0) 2 ([0, 20]) _ av _ t (g.sub m) d (ap.sub m) u
 refine Xv s R ?_
 rintro z aB ⟨rfl, F, ah⟩
 obtain ⟨f, a⟩ := E2 (Cx.c0 a [1] F) f a
 have c := c.tv F
 have d := ah
 refine Xu 1 [(23, Vi (i64.wrap (i.1 + y.1)))] (Xg (.agg #[Vi i.1, Vi (i64.wrap (i.1 + y.1))]) R (Xg (.agg #[Vi k.1, Vi (i64.wrap (k.1 + w.1)), Vi i.1, Vi (i64.wrap (i.1 + y.1))]) R ?_))
 obtain ⟨aC, an, X, G⟩ := Sa [Vi k.1, Vi (i64.wrap (k.1 + w.1)), Vi i.1, Vi (i64.wrap (i.1 + y.1))] tagg47 f R R R
 refine Xp an R ?_
 have d := E1 (Cx.j a 0 G) d
 have c := c.th G A 0
 have f := X
 refine Xk (Cn [(2, Vp N 0)] (fun ay => ?_))
 refine Cr (Rr (Rv [.agg #[Vi k.1, Vi (i64.wrap (k.1 + w.1)), Vi i.1, Vi (i64.wrap (i.1 + y.1))]] ⟨⟨_, R, Lv (Ra (Mo := []) 0 [Vi k.1, Vi (i64.wrap (k.1 + w.1)), Vi i.1, Vi (i64.wrap (i.1 + y.1))] tagg47 f nn R)⟩, T0⟩ ?_))
 obtain rfl := Sj o
 exact ⟨R, c, d⟩
def gen_Maker_Motion_L44 (e : List Int) (f : Int × (List Int) × Int) : Option (Step (Int × (List Int) × Int) (Int × (List Int))) :=
match f with
| (c, a, d) =>
(if (decide (d > 0)) = true then
((gen_Maker_Pick e c ([(-1), 0, 800, 1200, 3000, 5000])).bind fun b =>
(if a.length + ([b.1]).length ≤ 4294967296 then
some (.next (b.2, (a ++ [b.1]), i64.wrap (d - 1)))
else none))
else
some (.done (c, a)))
def gen_Maker_Motion_L30 (d : List (Int × Int × Int × Int × Int)) (b : Int × Int) (e : Int × Int) (h : (List (Int × Int)) × Int) : Option (Step ((List (Int × Int)) × Int) (List (Int × Int))) :=
match h with
| (c, a) =>
(if (decide (a < ((d).length : Int))) = true then
((idx d a).bind fun f =>
((idx d a).bind fun g =>
(if c.length + ([(i64.wrap (b.1 + f.2.2.2.1), i64.wrap ((i64.wrap (b.1 + e.1)) + g.2.2.2.1))] : List (Int × Int)).length ≤ 4294967296 then
some (.next ((c ++ ([(i64.wrap (b.1 + f.2.2.2.1), i64.wrap ((i64.wrap (b.1 + e.1)) + g.2.2.2.1))] : List (Int × Int))), i64.wrap (a + 1)))
else none)))
else
some (.done c))
def gen_Maker_Motion (a : List Int) (l : Int) (d : List (Int × Int × Int × Int × Int)) : Option (((Int × Int) × (List (Int × Int)) × Int × (List Int)) × Int) :=
((gen_Maker_Pick a l ([0, 500, 1200, 1400, 2000])).bind fun c =>
((gen_Maker_Pick a c.2 ([0, 10, 100])).bind fun e =>
((gen_Maker_Pick a e.2 ([0, 20, 100])).bind fun f =>
((gen_Maker_Pick a f.2 ([0, 10, 20, 60])).bind fun g =>
((gen_Maker_Pick a g.2 ([0, 5, 30, 150])).bind fun h =>
((loop (gen_Maker_Motion_L30 d g h) (([] : List (Int × Int)), 0)).bind fun b => match b with
| i => ((r20_Retarders d).bind fun m =>
((loop (gen_Maker_Motion_L44 a) (h.2, ([] : List Int), m)).bind fun b => match b with
| (k, j) => some (((c.1, i64.wrap (c.1 + e.1)), i, f.1, j), k)))))))))
theorem gen_Maker_Motion_w (k I J D aC Q U C ac O H) (a : MS O [[k], H]) (c : SlR eI O (fl [[k], H]) I J D) (d : O.heap[k]? = some (.cells #[Vl I D J, Vi aC] 72 (0, 0))) (i : SlR (eProd eI (eIt4)) O (fl [[k], H]) Q U C) (m : gen_Maker_Motion D aC C = some ac) : CallVC Tryz.prog 17 [Vp k 0, Vl Q C U] O fun af v => ∃ ah aF ai aG, af = .agg #[Vi ac.1.1.1, Vi ac.1.1.2, Vl ah ac.1.2.1 aF, Vi ac.1.2.2.1, Vl ai ac.1.2.2.2 aG] ∧ Ev [k] O v ∧ v.heap[k]? = some (.cells #[Vl I D J, Vi ac.2] 72 (0, 0)) ∧ MS v [Bk ah, Bk ai, [k], H] ∧ FR O.heap.size [Bk ah, Bk ai] ∧ OwnS (eProd eI eI) 39 v (fl [Bk ah, Bk ai, [k], H]) ah aF ac.1.2.1 ∧ OwnS eI 3 v (fl [Bk ah, Bk ai, [k], H]) ai aG ac.1.2.2.2 := by
 refine Cw hmx Tryz.func17 R R R ?_
 have f := Ev.refl [k] O
 have p := FR.nil O.heap.size
 refine Cs (Xj #[Vi 0, Vi 0, Z0, Vi 0, Z0] R (fun A cH a6 g bC => ?_))
 have p := p.box f.size a6
 obtain ⟨c, d, i, a, f⟩ := E5 (Cx.b a bC a6 g) c d i a f
 refine Xk (Cs (Xu 1 [(11, Vp k 0)] (Xh #[Vi 0, Vi 500, Vi 1200, Vi 1400, Vi 2000] 3 R (fun bf cq b0 bv bE => ?_))))
 have q := Cx.e a bE
 obtain ⟨c, d, i, g, a, f⟩ := E6 q c d i g a f
 have ce := q.l (e := eI) b0 bv 5 [0, 500, 1200, 1400, 2000]
 obtain ⟨w, N, m⟩ := Bs m
 obtain ⟨L, y⟩ := Kc a [1] [0, 2]
 have K := gen_Maker_Pick_w k I J D aC (Ad bf 0) 5 ([0, 500, 1200, 1400, 2000]) _ cq _ L (c.sub y) d (ce.sub y) N
 refine Xv K R ?_
 rintro af cS ⟨rfl, a2, bN⟩
 obtain ⟨c, i, g, a⟩ := E4 (Cx.c0 a [1] a2) c i g a
 have f := f.tv a2
 have d := bN
 refine Xu 1 [(5, Vi w.1)] (Xk (Cs (Xu 3 [(14, Vi w.1), (15, Vi w.1), (16, Vp k 0)] (Xh #[Vi 0, Vi 10, Vi 100] 3 R (fun ba cj bO bk bw => ?_)))))
 have q := Cx.e a bw
 obtain ⟨c, d, i, g, a, f⟩ := E6 q c d i g a f
 have b7 := q.l (e := eI) bO bk 3 [0, 10, 100]
 obtain ⟨aa, N, m⟩ := Bs m
 obtain ⟨L, y⟩ := Kc a [1] [0, 2]
 have K := gen_Maker_Pick_w k I J D w.2 (Ad ba 0) 3 ([0, 10, 100]) _ cj _ L (c.sub y) d (b7.sub y) N
 refine Xv K R ?_
 rintro af cB ⟨rfl, aJ, bH⟩
 obtain ⟨c, i, g, a⟩ := E4 (Cx.c0 a [1] aJ) c i g a
 have f := f.tv aJ
 have d := bH
 refine Xu 1 [(19, Vi (i64.wrap (w.1 + aa.1)))] (Xg (.agg #[Vi w.1, Vi (i64.wrap (w.1 + aa.1))]) R (Xu 1 [(21, Vp k 0)] (Xh #[Vi 0, Vi 20, Vi 100] 3 R (fun bb ck bQ bl bx => ?_))))
 have q := Cx.e a bx
 obtain ⟨c, d, i, g, a, f⟩ := E6 q c d i g a f
 have b8 := q.l (e := eI) bQ bl 3 [0, 20, 100]
 obtain ⟨ad, N, m⟩ := Bs m
 obtain ⟨L, y⟩ := Kc a [1] [0, 2]
 have K := gen_Maker_Pick_w k I J D aa.2 (Ad bb 0) 3 ([0, 20, 100]) _ ck _ L (c.sub y) d (b8.sub y) N
 refine Xv K R ?_
 rintro af cC ⟨rfl, aK, bI⟩
 obtain ⟨c, i, g, a⟩ := E4 (Cx.c0 a [1] aK) c i g a
 have f := f.tv aK
 have d := bI
 refine Xg (.agg #[Vi w.1, Vi (i64.wrap (w.1 + aa.1)), Z0, Vi ad.1, Z0]) R (Xj #[Vi 0, Vi 0, Z0, Vi 0, Z0] R (fun t cD a5 h bz => ?_))
 have p := p.box f.size a5
 obtain ⟨c, d, i, g, a, f⟩ := E6 (Cx.b a bz a5 h) c d i g a f
 obtain ⟨cE, b1, bm, aL⟩ := Sa [Vi w.1, Vi (i64.wrap (w.1 + aa.1)), Z0, Vi ad.1, Z0] tagg53 h R R R
 refine Xp b1 R ?_
 obtain ⟨c, d, i, g, a⟩ := E5 (Cx.j a 0 aL) c d i g a
 have f := f.th aL p 0
 have h := bm
 refine Xk (Cs (Xu 1 [(25, Vp k 0)] (Xh #[Vi 0, Vi 10, Vi 20, Vi 60] 3 R (fun bc cl bS bn bA => ?_))))
 have q := Cx.e a bA
 obtain ⟨c, d, i, g, h, a, f⟩ := E7 q c d i g h a f
 have b9 := q.l (e := eI) bS bn 4 [0, 10, 20, 60]
 obtain ⟨r, N, m⟩ := Bs m
 obtain ⟨L, y⟩ := Kc a [2] [0, 1, 3]
 have K := gen_Maker_Pick_w k I J D ad.2 (Ad bc 0) 4 ([0, 10, 20, 60]) _ cl _ L (c.sub y) d (b9.sub y) N
 refine Xv K R ?_
 rintro af cF ⟨rfl, aN, bJ⟩
 obtain ⟨c, i, g, h, a⟩ := E5 (Cx.c0 a [2] aN) c i g h a
 have f := f.tv aN
 have d := bJ
 refine Xu 1 [(7, Vi r.1)] (Xk (Cs (Xu 2 [(28, Vi r.1), (29, Vp k 0)] (Xh #[Vi 0, Vi 5, Vi 30, Vi 150] 3 R (fun bd cm bU bo bB => ?_)))))
 have q := Cx.e a bB
 obtain ⟨c, d, i, g, h, a, f⟩ := E7 q c d i g h a f
 have ca := q.l (e := eI) bU bo 4 [0, 5, 30, 150]
 obtain ⟨E, N, m⟩ := Bs m
 obtain ⟨L, y⟩ := Kc a [2] [0, 1, 3]
 have K := gen_Maker_Pick_w k I J D r.2 (Ad bd 0) 4 ([0, 5, 30, 150]) _ cm _ L (c.sub y) d (ca.sub y) N
 refine Xv K R ?_
 rintro af cn ⟨rfl, aO, bK⟩
 obtain ⟨c, i, g, h, a⟩ := E5 (Cx.c0 a [2] aO) c i g h a
 have f := f.tv aO
 have d := bK
 refine Xu 2 [(32, Vi (i64.wrap (r.1 + E.1))), (8, Vi (i64.wrap (r.1 + E.1)))] (Xk (Cn [(0, Vp k 0), (1, Vl Q C U), (4, Vp A 0), (6, Vp t 0), (7, Vi r.1), (8, Vi (i64.wrap (r.1 + E.1)))] (fun ag => ?_)))
 refine Cq (Cs (Xu 1 [(9, Vi 0)] (Xk (Cb ?_))))
 obtain ⟨c, d, i, g, h, a⟩ := E6 (Cx.n a) c d i g h a
 have p := p.pn
 have ay := OwnS.nil (eProd eI eI) 39 cn (fl [Bk none, [t], [A], [k], H])
 obtain ⟨c, i, ay, a⟩ := E4 (Cx.s a [2, 0, 1, 3, 4]) c i ay a
 have p := p.px [2, 0, 1]
 obtain ⟨bg, ar, bi⟩ := Bs m
 obtain ⟨ao, ar⟩ := Lo ar
 refine Cl (Lr hmx (σ := Nat × (List (Int × Int)) × Int × Option Addr × Nat) (fun Z => match Z with | (_, F, G, x, S) => [(0, Vp k 0), (1, Vl Q C U), (4, Vp A 0), (6, Vp t 0), (7, Vi r.1), (8, Vi (i64.wrap (r.1 + E.1))), (9, Vi G)]) (fun Z v => match Z with | (aB, F, G, x, S) => loopN (gen_Maker_Motion_L30 C r E) aB (F, G) = some bg ∧ Ev [k] O v ∧ (fun ae => MS v ae ∧ FR O.heap.size [[A], Bk x, [t]] ∧ SlR eI v (fl ae) I J D ∧ v.heap[k]? = some (.cells #[Vl I D J, Vi E.2] 72 (0, 0)) ∧ SlR (eProd eI (eIt4)) v (fl ae) Q U C ∧ v.heap[A]? = some (.cells #[Vi 0, Vi 0, Z0, Vi 0, Z0] 53 (0, 0)) ∧ OwnS (eProd eI eI) 39 v (fl ae) x S F ∧ v.heap[t]? = some (.cells #[Vi w.1, Vi (i64.wrap (w.1 + aa.1)), Vl x F S, Vi ad.1, Z0] 53 (0, 0))) [[A], Bk x, [t], [k], H]) (fun Z => Z.1) (ao, ([] : List (Int × Int)), 0, none, 0) ⟨R, R, R, R, R, R, R, T0⟩ ⟨ar, f, a, p, c, d, i, g, ay, h⟩ ?_)
 rintro ⟨ao, F, G, x, S⟩ ag a8 ⟨am, f, a, p, c, d, i, g, o, h⟩
 rcases ao with _ | ao
 · exact (Lz am).elim
 obtain ⟨cz, m, am⟩ := Bs am
 refine Cq (Cs (Xu 2 [(33, Vi G), (34, Vl Q C U)] (Xz tsl35 R (Xu 1 [(36, Bd (G < ((C).length : Int)))] (Xk (Cn [(0, Vp k 0), (1, Vl Q C U), (4, Vp A 0), (6, Vp t 0), (7, Vi r.1), (8, Vi (i64.wrap (r.1 + E.1))), (9, Vi G), (36, Bd (G < ((C).length : Int)))] (fun ag => ?_)))))))
 refine Ci _ R m (fun m => ?_) (fun m => ?_)
 · refine Ck (Kt (Cq (Cb (Cd [] [(0, false), (1, false), (2, false), (3, false), (4, false), (5, false), (6, false), (7, false), (8, false), (9, false), (10, false), (11, false), (12, false), (13, false), (14, false), (15, false), (16, false), (17, false), (18, true), (19, false), (20, true)] _ (by kernel_rfl) R ?_))))
   obtain ⟨d, c, i, g, h, o, a, f⟩ := E8 (Cx.e a (Ev.drew a8)) d c i g h o a f
   refine Yg t 0 2 (Vl x F S) R R (Rf tfld53_1 _) tcell49 h nn R (Xu 3 [(41, Vi r.1), (42, Vl Q C U), (43, Vi G)] ?_)
   obtain ⟨aj, ch, m⟩ := Bs m
   refine Xq (i.el tsl35) tfld102_3 tcell3 ch R (fun _ => R) (fun _ => Xu 4 [(47, Vi (i64.wrap (r.1 + aj.2.2.2.1))), (48, Vi (i64.wrap (r.1 + E.1))), (49, Vl Q C U), (50, Vi G)] ?_)
   obtain ⟨ak, ci, m⟩ := Bs m
   refine Xq (i.el tsl35) tfld102_3 tcell3 ci R (fun _ => R) (fun _ => Xu 1 [(54, Vi (i64.wrap ((i64.wrap (r.1 + E.1)) + ak.2.2.2.1)))] (Xg (.agg #[Vi (i64.wrap (r.1 + aj.2.2.2.1)), Vi (i64.wrap ((i64.wrap (r.1 + E.1)) + ak.2.2.2.1))]) R (Xb #[Vi (i64.wrap (r.1 + aj.2.2.2.1)), Vi (i64.wrap ((i64.wrap (r.1 + E.1)) + ak.2.2.2.1))] 39 R R R (by kernel_rfl) (fun cs cG bX bp aQ cw => ?_))))
   refine ⟨.inr aQ, ?_⟩
   have q := Cx.e a aQ
   obtain ⟨d, c, i, g, h, o, a, f⟩ := E8 q d c i g h o a f
   have cb := q.l (e := (eProd eI eI)) bX bp 1 [(i64.wrap (r.1 + aj.2.2.2.1), i64.wrap ((i64.wrap (r.1 + E.1)) + ak.2.2.2.1))]
   have ax := Gl m
   have m := Gr m
   obtain ⟨aD, aH, cI, b2, aS, a3, cu, cf⟩ := own_appendN tel49 49 o (Mf 1 R) cb ax
   refine Xx R (Rn b2) ?_
   have q := Cx.u a 1 aS a3
   obtain ⟨d, c, i, g, h, a⟩ := E6 q d c i g h a
   have aw := p.ux 1 f a3
   have f := f.th aS p 1
   have p := aw
   have o := cf _ q.st.new
   refine Yf (Vp t 0) (Vp t 2) R (Rf tfld53_1 _) ?_
   obtain ⟨cJ, b3, bq, aU⟩ := Sx 2 (Vl aD ((F ++ ([(i64.wrap (r.1 + aj.2.2.2.1), i64.wrap ((i64.wrap (r.1 + E.1)) + ak.2.2.2.1))] : List (Int × Int)))) aH) tcell49 h
   refine Xp b3 R ?_
   obtain ⟨d, c, i, g, o, a⟩ := E6 (Cx.j a 2 aU) d c i g o a
   have f := f.th aU p 2
   have h := bq
   refine Xe R (Kl (Kt (Cp (Xu 3 [(37, Vi G), (38, Vi (i64.wrap (G + 1))), (9, Vi (i64.wrap (G + 1)))] (Xe R ?_)))))
   obtain rfl := Sj m
   exact Kt ⟨(ao, (F ++ ([(i64.wrap (r.1 + aj.2.2.2.1), i64.wrap ((i64.wrap (r.1 + E.1)) + ak.2.2.2.1))] : List (Int × Int))), i64.wrap (G + 1), aD, aH), ⟨R, R, R, R, R, R, R, T0⟩, ⟨am, f, a, p, c, d, i, g, o, h⟩, Ns _⟩
 refine Ce (Ke ?_)
 obtain rfl := Sj m
 have aA := Sj am
 subst aA
 have m := bi
 refine Ke (Ki (Kt (Cn [(0, Vp k 0), (1, Vl Q C U), (4, Vp A 0), (6, Vp t 0)] (fun ag => ?_))))
 refine Cq (Cs (Xu 1 [(59, Vl Q C U)] ?_))
 obtain ⟨a9, N, m⟩ := Bs m
 obtain ⟨L, y⟩ := Kc a [] [0, 1, 2, 3, 4]
 have K := r20_Retarders_w Q U C _ a8 _ L (i.sub y) N
 refine Xv K R ?_
 rintro af co ⟨rfl, bD⟩
 obtain ⟨d, c, g, h, o, a, f⟩ := E7 (Cx.e a bD) d c g h o a f
 refine Xu 1 [(10, Vi a9)] (Xk (Cb ?_))
 obtain ⟨d, c, g, h, o, a⟩ := E6 (Cx.n a) d c g h o a
 have p := p.pn
 have az := OwnS.nil eI 3 co (fl [Bk none, [A], Bk x, [t], [k], H])
 obtain ⟨c, o, az, a⟩ := E4 (Cx.s a [1, 2, 0, 3, 4, 5]) c o az a
 have p := p.px [1, 2, 0, 3]
 obtain ⟨bh, au, bj⟩ := Bs m
 obtain ⟨ap, au⟩ := Lo au
 refine Cl (Lr hmx (σ := Nat × Int × (List Int) × Int × Option Addr × Nat) (fun Z => match Z with | (_, al, X, Y, z, ab) => [(0, Vp k 0), (4, Vp A 0), (6, Vp t 0), (10, Vi Y)]) (fun Z v => match Z with | (aB, al, X, Y, z, ab) => loopN (gen_Maker_Motion_L44 D) aB (al, X, Y) = some bh ∧ Ev [k] O v ∧ (fun ae => MS v ae ∧ FR O.heap.size [[A], Bk x, Bk z, [t]] ∧ SlR eI v (fl ae) I J D ∧ v.heap[k]? = some (.cells #[Vl I D J, Vi al] 72 (0, 0)) ∧ v.heap[A]? = some (.cells #[Vi 0, Vi 0, Z0, Vi 0, Z0] 53 (0, 0)) ∧ OwnS (eProd eI eI) 39 v (fl ae) x S F ∧ OwnS eI 3 v (fl ae) z ab X ∧ v.heap[t]? = some (.cells #[Vi w.1, Vi (i64.wrap (w.1 + aa.1)), Vl x F S, Vi ad.1, Vl z X ab] 53 (0, 0))) [[A], Bk x, Bk z, [t], [k], H]) (fun Z => Z.1) (ap, E.2, ([] : List Int), a9, none, 0) ⟨R, R, R, R, T0⟩ ⟨au, f, a, p, c, d, g, o, az, h⟩ ?_)
 rintro ⟨ap, al, X, Y, z, ab⟩ ag cr ⟨an, f, a, p, c, d, g, o, B, h⟩
 rcases ap with _ | ap
 · exact (Lz an).elim
 obtain ⟨cA, m, an⟩ := Bs an
 refine Cq (Cs (Xu 2 [(61, Vi Y), (62, Bd (Y > 0))] (Xk (Cn [(0, Vp k 0), (4, Vp A 0), (6, Vp t 0), (10, Vi Y), (62, Bd (Y > 0))] (fun ag => ?_)))))
 refine Ci _ R m (fun m => ?_) (fun m => ?_)
 · refine Ck (Kt (Cq (Cb (Cd [k] [(0, false), (1, false), (2, false), (3, false), (4, false), (5, false), (6, true), (7, true), (8, true)] _ (by kernel_rfl) R ?_))))
   obtain ⟨d, c, g, h, o, B, a, f⟩ := E8 (Cx.e a (Ev.drew cr)) d c g h o B a f
   refine Yf (Vp t 0) (Vp t 4) R (Rf tfld53_3 _) (Yl _ (Vl z X ab) R (Rb tcell22 h ((a.apart 3 4 R R R) _ mem1) 4 _ R) (Xu 1 [(67, Vp k 0)] (Xb #[Vi (-1), Vi 0, Vi 800, Vi 1200, Vi 3000, Vi 5000] 3 R R R (by kernel_rfl) (fun be cp bY br aX cx => ?_))))
   refine ⟨.inr (aX.nil), ?_⟩
   have q := Cx.e a aX
   obtain ⟨d, c, g, h, o, B, a, f⟩ := E8 q d c g h o B a f
   have cc := q.l (e := eI) bY br 6 [(-1), 0, 800, 1200, 3000, 5000]
   obtain ⟨aq, N, m⟩ := Bs m
   obtain ⟨L, y⟩ := Kc a [4] [0, 1, 2, 3, 5]
   have K := gen_Maker_Pick_w k I J D al (Ad be 0) 6 ([(-1), 0, 800, 1200, 3000, 5000]) _ cp _ L (c.sub y) d (cc.sub y) N
   refine Xc 14 #[] #[] _ _ R R R R K ?_
   rintro af cK ⟨rfl, av, bL⟩
   refine ⟨.inr av, ?_⟩
   obtain ⟨c, g, h, o, B, a⟩ := E6 (Cx.c0 a [4] av) c g h o B a
   have f := f.tv av
   have d := bL
   refine Xb #[Vi aq.1] 3 R R R (by kernel_rfl) (fun ct cL bZ bs aY cy => ?_)
   refine ⟨.inr (aY.nil), ?_⟩
   have q := Cx.e a aY
   obtain ⟨d, c, g, h, o, B, a, f⟩ := E8 q d c g h o B a f
   have cd := q.l (e := eI) bZ bs 1 [aq.1]
   have ax := Gl m
   have m := Gr m
   obtain ⟨aE, aI, cN, b4, aZ, a4, cv, cg⟩ := own_appendN tel22 22 B (Mf 2 R) cd ax
   refine Xx R (Rn b4) ?_
   have q := Cx.u a 2 aZ a4
   obtain ⟨d, c, g, h, o, a⟩ := E6 q d c g h o a
   have aw := p.ux 2 f a4
   have f := f.th aZ p 2
   have p := aw
   have B := cg _ q.st.new
   refine Yf (Vp t 0) (Vp t 4) R (Rf tfld53_3 _) ?_
   obtain ⟨cO, b5, bt, a0⟩ := Sx 4 (Vl aE ((X ++ [aq.1])) aI) tcell22 h
   refine Xp b5 R ?_
   obtain ⟨d, c, g, o, B, a⟩ := E6 (Cx.j a 3 a0) d c g o B a
   have f := f.th a0 p 3
   have h := bt
   refine Xe R (Kl (Kt (Cp (Xu 3 [(63, Vi Y), (64, Vi (i64.wrap (Y - 1))), (10, Vi (i64.wrap (Y - 1)))] (Xe R ?_)))))
   obtain rfl := Sj m
   exact Kt ⟨(ap, aq.2, (X ++ [aq.1]), i64.wrap (Y - 1), aE, aI), ⟨R, R, R, R, T0⟩, ⟨an, f, a, p, c, d, g, o, B, h⟩, Ns _⟩
 refine Ce (Ke ?_)
 obtain rfl := Sj m
 have aA := Sj an
 subst aA
 have m := bj
 refine Ke (Ki (Kt (Cn [(4, Vp A 0), (6, Vp t 0)] (fun ag => ?_))))
 refine Cs (Yl _ _ R (Ra 0 [Vi w.1, Vi (i64.wrap (w.1 + aa.1)), Vl x F S, Vi ad.1, Vl z X ab] tagg53 h nn R) ?_)
 obtain ⟨cQ, b6, bu, a1⟩ := Sa [Vi w.1, Vi (i64.wrap (w.1 + aa.1)), Vl x F S, Vi ad.1, Vl z X ab] tagg53 g R R R
 refine Xp b6 R ?_
 obtain ⟨d, o, B, a⟩ := E4 (Cx.j a 0 a1) d o B a
 have f := f.th a1 p 0
 have g := bu
 refine Xk (Cr (Rr (Rv [.agg #[Vi w.1, Vi (i64.wrap (w.1 + aa.1)), Vl x F S, Vi ad.1, Vl z X ab]] ⟨⟨_, R, Lv (Ra (Mo := []) 0 [Vi w.1, Vi (i64.wrap (w.1 + aa.1)), Vl x F S, Vi ad.1, Vl z X ab] tagg53 g nn R)⟩, T0⟩ ?_)))
 obtain rfl := Sj m
 have bG := a.pk [1, 2, 4, 5] [Bk x, Bk z, [k], H] R
 have a7 := Pk (ls := [[A], Bk x, Bk z, [t], [k], H]) [1, 2, 4, 5] [Bk x, Bk z, [k], H] R
 have bF := p.pk [1, 2] [Bk x, Bk z] R
 exact ⟨x, S, z, ab, R, f, d, bG, bF, o.sub a7, B.sub a7⟩
def gen_Maker_Run_J35 (a : List Int) (d : Int) (c : Int) (b : Int) : Option (Step (Int × (List Int) × Int) (Int × (List Int))) :=
(if a.length + ([b]).length ≤ 4294967296 then
some (.next (c, (a ++ [b]), i64.wrap (d + 1)))
else none)
def gen_Maker_Run_L29 (h : List Int) (f : Int) (g : List Int) (i : Int × (List Int) × Int) : Option (Step (Int × (List Int) × Int) (Int × (List Int))) :=
match i with
| (e, d, b) =>
(if (decide (b < ((g).length : Int))) = true then
((idx g b).bind fun c =>
(if (decide (c ≥ 0)) = true then
((gen_Maker_From h e (i64.wrap (c - f)) (i64.wrap (c + f))).bind fun a =>
gen_Maker_Run_J35 d b a.2 (if (if a.1 < 20000 then a.1 else 20000) > 0 then (if a.1 < 20000 then a.1 else 20000) else 0))
else
gen_Maker_Run_J35 d b e c))
else
some (.done (e, d)))
def gen_Maker_Run_L15 (f : List Int) (c : List (Int × Int)) (g : Int × (List Int) × Int) : Option (Step (Int × (List Int) × Int) (Int × (List Int))) :=
match g with
| (e, b, a) =>
(if (decide (a < ((c).length : Int))) = true then
((idx c a).bind fun h =>
((idx c a).bind fun i =>
((gen_Maker_From f e h.1 i.2).bind fun d =>
(if b.length + ([d.1]).length ≤ 4294967296 then
some (.next (d.2, (b ++ [d.1]), i64.wrap (a + 1)))
else none))))
else
some (.done (e, b)))
def gen_Maker_Run (b : List Int) (h : Int) (i : Int) (j : Int) (k : List (Int × Int)) (l : Int) (m : List Int) : Option ((Int × (List Int) × (List Int)) × Int) :=
((gen_Maker_From b h i j).bind fun c =>
((loop (gen_Maker_Run_L15 b k) (c.2, ([] : List Int), 0)).bind fun a => match a with
| (f, d) => ((loop (gen_Maker_Run_L29 b l m) (f, ([] : List Int), 0)).bind fun a => match a with
| (g, e) => some ((c.1, d, e), g))))
theorem gen_Maker_Run_w (o Q U I aK ah ai Y Z J X ab ac O aj E F) (a : MS E [[o], F]) (d : SlR eI E (fl [[o], F]) Q U I) (i : E.heap[o]? = some (.cells #[Vl Q I U, Vi aK] 72 (0, 0))) (f : SlR (eProd eI eI) E (fl [[o], F]) Y Z J) (g : SlR eI E (fl [[o], F]) ab ac O) (k : gen_Maker_Run I aK ah ai J X O = some aj) : CallVC Tryz.prog 20 [Vp o 0, .agg #[Vi ah, Vi ai, Vl Y J Z, Vi X, Vl ab O ac]] E fun aA p => ∃ ak aQ al aS, aA = .agg #[Vi aj.1.1, Vl ak aj.1.2.1 aQ, Vl al aj.1.2.2 aS] ∧ Ev [o] E p ∧ p.heap[o]? = some (.cells #[Vl Q I U, Vi aj.2] 72 (0, 0)) ∧ MS p [Bk ak, Bk al, [o], F] ∧ FR E.heap.size [Bk ak, Bk al] ∧ OwnS eI 3 p (fl [Bk ak, Bk al, [o], F]) ak aQ aj.1.2.1 ∧ OwnS eI 3 p (fl [Bk ak, Bk al, [o], F]) al aS aj.1.2.2 := by
 refine Cw hmx Tryz.func20 R R R ?_
 have h := Ev.refl [o] E
 have r := FR.nil E.heap.size
 refine Cs (Xo R (fun t cf ba c bp => ?_))
 have r := r.box h.size ba
 obtain ⟨d, i, f, g, a, h⟩ := E6 (Cx.b a bp ba c) d i f g a h
 refine Xj #[Vi 0, Z0, Z0] R (fun z bQ bb m bq => ?_)
 have r := r.box h.size bb
 obtain ⟨d, i, f, g, c, a, h⟩ := E7 (Cx.b a bq bb m) d i f g c a h
 refine Xk (Cs (Xu 1 [(9, Vp o 0)] (Yf (Vp t 0) (Vp t 0) R (Rf tfld53_0 _) (Yg t 0 0 (Vi ah) R R (Rf tfld39_0 _) tcell3 c nn R (Yf (Vp t 0) (Vp t 0) R (Rf tfld53_0 _) (Yg t 0 1 (Vi ai) R R (Rf tfld39_1 _) tcell3 c nn R ?_))))))
 obtain ⟨ae, aw, k⟩ := Bs k
 obtain ⟨au, av⟩ := Kc a [2] [0, 1, 3]
 have ap := gen_Maker_From_w o Q U I aK ah ai _ bQ _ au (d.sub av) i aw
 refine Xv ap R ?_
 rintro aA b4 ⟨rfl, aY, bt⟩
 obtain ⟨d, f, g, c, m, a⟩ := E6 (Cx.c0 a [2] aY) d f g c m a
 have h := h.tv aY
 have i := bt
 refine Xg (.agg #[Vi ae.1, Z0, Z0]) R (Xj #[Vi 0, Z0, Z0] R (fun w b5 a9 q bn => ?_))
 have r := r.box h.size a9
 obtain ⟨d, i, f, g, c, m, a, h⟩ := E8 (Cx.b a bn a9 q) d i f g c m a h
 obtain ⟨bO, bz, bh, aZ⟩ := Sa [Vi ae.1, Z0, Z0] tagg62 q R R R
 refine Xp bz R ?_
 obtain ⟨d, i, f, g, c, m, a⟩ := E7 (Cx.j a 0 aZ) d i f g c m a
 have h := h.th aZ r 0
 have q := bh
 refine Xk (Cq (Cs (Xu 1 [(6, Vi 0)] (Xk (Cb ?_)))))
 obtain ⟨d, i, f, g, c, m, q, a⟩ := E8 (Cx.n a) d i f g c m q a
 have r := r.pn
 have aG := OwnS.nil eI 3 bO (fl [Bk none, [w], [z], [t], [o], F])
 obtain ⟨d, f, g, aG, a⟩ := E5 (Cx.s a [3, 2, 0, 1, 4, 5]) d f g aG a
 have r := r.px [3, 2, 0, 1]
 obtain ⟨bd, aB, bf⟩ := Bs k
 obtain ⟨ax, aB⟩ := Lo aB
 refine Cl (Lr hmx (σ := Nat × Int × (List Int) × Int × Option Addr × Nat) (fun K => match K with | (_, am, C, N, x, L) => [(0, Vp o 0), (3, Vp t 0), (4, Vp z 0), (5, Vp w 0), (6, Vi N)]) (fun K p => match K with | (aJ, am, C, N, x, L) => loopN (gen_Maker_Run_L15 I J) aJ (am, C, N) = some bd ∧ Ev [o] E p ∧ (fun A => MS p A ∧ FR E.heap.size [[t], [z], Bk x, [w]] ∧ SlR eI p (fl A) Q U I ∧ p.heap[o]? = some (.cells #[Vl Q I U, Vi am] 72 (0, 0)) ∧ SlR (eProd eI eI) p (fl A) Y Z J ∧ SlR eI p (fl A) ab ac O ∧ p.heap[t]? = some (.cells #[Vi ah, Vi ai, Vl Y J Z, Vi X, Vl ab O ac] 53 (0, 0)) ∧ p.heap[z]? = some (.cells #[Vi 0, Z0, Z0] 62 (0, 0)) ∧ OwnS eI 3 p (fl A) x L C ∧ p.heap[w]? = some (.cells #[Vi ae.1, Vl x C L, Z0] 62 (0, 0))) [[t], [z], Bk x, [w], [o], F]) (fun K => K.1) (ax, ae.2, ([] : List Int), 0, none, 0) ⟨R, R, R, R, R, T0⟩ ⟨aB, h, a, r, d, i, f, g, c, m, aG, q⟩ ?_)
 rintro ⟨ax, am, C, N, x, L⟩ ag aL ⟨aq, h, a, r, d, i, f, g, c, m, v, q⟩
 rcases ax with _ | ax
 · exact (Lz aq).elim
 obtain ⟨b3, k, aq⟩ := Bs aq
 refine Cq (Cs (Xu 1 [(18, Vi N)] (Yg t 0 2 (Vl Y J Z) R R (Rf tfld53_1 _) tcell49 c nn R (Xz tsl49 R (Xu 1 [(22, Bd (N < ((J).length : Int)))] (Xk (Cn [(0, Vp o 0), (3, Vp t 0), (4, Vp z 0), (5, Vp w 0), (6, Vi N), (22, Bd (N < ((J).length : Int)))] (fun ag => ?_))))))))
 refine Ci _ R k (fun k => ?_) (fun k => ?_)
 · refine Ck (Kt (Cq (Cb (Cd [o] [(0, false), (1, false), (2, true), (3, true), (4, true), (5, true), (6, true), (7, true), (8, true), (9, true), (10, true), (11, true), (12, true), (13, true), (14, true), (15, false), (16, false), (17, true), (18, true), (19, true)] _ (by kernel_rfl) R ?_))))
   obtain ⟨i, d, c, f, g, m, q, v, a, h⟩ := E10 (Cx.e a (Ev.drew aL)) i d c f g m q v a h
   refine Yf (Vp w 0) (Vp w 1) R (Rf tfld62_1 _) (Yl _ (Vl x C L) R (Rb tcell22 q ((a.apart 3 4 R R R) _ mem1) 1 _ R) (Xu 1 [(27, Vp o 0)] (Yg t 0 2 (Vl Y J Z) R R (Rf tfld53_1 _) tcell49 c nn R (Xu 1 [(30, Vi N)] ?_))))
   obtain ⟨bU, bJ, k⟩ := Bs k
   refine Xq (f.el tsl49) tfld39_0 tcell3 bJ R (fun _ => R) (fun _ => Yg t 0 2 (Vl Y J Z) R R (Rf tfld53_1 _) tcell49 c nn R (Xu 1 [(36, Vi N)] ?_))
   obtain ⟨bX, bK, k⟩ := Bs k
   refine Xq (f.el tsl49) tfld39_1 tcell3 bK R (fun _ => R) (fun _ => ?_)
   obtain ⟨az, aw, k⟩ := Bs k
   obtain ⟨au, av⟩ := Kc a [4] [0, 1, 2, 3, 5]
   have ap := gen_Maker_From_w o Q U I am bU.1 bX.2 _ (aL).drew _ au (d.sub av) i aw
   refine Xc 13 #[] #[] _ _ R R R R ap ?_
   rintro aA b6 ⟨rfl, aD, bu⟩
   refine ⟨.inr aD, ?_⟩
   obtain ⟨d, c, f, g, m, q, v, a⟩ := E8 (Cx.c0 a [4] aD) d c f g m q v a
   have h := h.tv aD
   have i := bu
   refine Xb #[Vi az.1] 3 R R R (by kernel_rfl) (fun bY b7 bw bi a0 b2 => ?_)
   refine ⟨.inr (a0.nil), ?_⟩
   have aa := Cx.e a a0
   obtain ⟨i, d, c, f, g, m, q, v, a, h⟩ := E10 aa i d c f g m q v a h
   have bF := aa.l (e := eI) bw bi 1 [az.1]
   have aF := Gl k
   have k := Gr k
   obtain ⟨aN, aU, b8, bA, a1, a7, b0, bH⟩ := own_appendN tel22 22 v (Mf 2 R) bF aF
   refine Xx R (Rn bA) ?_
   have aa := Cx.u a 2 a1 a7
   obtain ⟨i, d, c, f, g, m, q, a⟩ := E8 aa i d c f g m q a
   have aE := r.ux 2 h a7
   have h := h.th a1 r 2
   have r := aE
   have v := bH _ aa.st.new
   refine Yf (Vp w 0) (Vp w 1) R (Rf tfld62_1 _) ?_
   obtain ⟨b9, bB, bj, a2⟩ := Sx 1 (Vl aN ((C ++ [az.1])) aU) tcell22 q
   refine Xp bB R ?_
   obtain ⟨i, d, c, f, g, m, v, a⟩ := E8 (Cx.j a 3 a2) i d c f g m v a
   have h := h.th a2 r 3
   have q := bj
   refine Xe R (Kl (Kt (Cp (Xu 3 [(23, Vi N), (24, Vi (i64.wrap (N + 1))), (6, Vi (i64.wrap (N + 1)))] (Xe R ?_)))))
   obtain rfl := Sj k
   exact Kt ⟨(ax, az.2, (C ++ [az.1]), i64.wrap (N + 1), aN, aU), ⟨R, R, R, R, R, T0⟩, ⟨aq, h, a, r, d, i, f, g, c, m, v, q⟩, Ns _⟩
 refine Ce (Ke ?_)
 obtain rfl := Sj k
 have aI := Sj aq
 subst aI
 have k := bf
 refine Ke (Ki (Kt (Cn [(0, Vp o 0), (3, Vp t 0), (4, Vp z 0), (5, Vp w 0)] (fun ag => ?_))))
 refine Cq (Cs (Xu 1 [(7, Vi 0)] (Xk (Cb ?_))))
 obtain ⟨i, d, c, f, g, m, q, v, a⟩ := E9 (Cx.n a) i d c f g m q v a
 have r := r.pn
 have aH := OwnS.nil eI 3 aL (fl [Bk none, [t], [z], Bk x, [w], [o], F])
 obtain ⟨d, f, g, v, aH, a⟩ := E6 (Cx.s a [1, 2, 3, 0, 4, 5, 6]) d f g v aH a
 have r := r.px [1, 2, 3, 0, 4]
 obtain ⟨be, aC, bg⟩ := Bs k
 obtain ⟨ay, aC⟩ := Lo aC
 refine Cl (Lr hmx (σ := Nat × Int × (List Int) × Int × Option Addr × Nat) (fun K => match K with | (_, an, G, D, y, S) => [(0, Vp o 0), (3, Vp t 0), (4, Vp z 0), (5, Vp w 0), (7, Vi D)]) (fun K p => match K with | (aJ, an, G, D, y, S) => loopN (gen_Maker_Run_L29 I X O) aJ (an, G, D) = some be ∧ Ev [o] E p ∧ (fun A => MS p A ∧ FR E.heap.size [[t], [z], Bk x, Bk y, [w]] ∧ SlR eI p (fl A) Q U I ∧ p.heap[o]? = some (.cells #[Vl Q I U, Vi an] 72 (0, 0)) ∧ SlR (eProd eI eI) p (fl A) Y Z J ∧ SlR eI p (fl A) ab ac O ∧ p.heap[t]? = some (.cells #[Vi ah, Vi ai, Vl Y J Z, Vi X, Vl ab O ac] 53 (0, 0)) ∧ p.heap[z]? = some (.cells #[Vi 0, Z0, Z0] 62 (0, 0)) ∧ OwnS eI 3 p (fl A) x L C ∧ OwnS eI 3 p (fl A) y S G ∧ p.heap[w]? = some (.cells #[Vi ae.1, Vl x C L, Vl y G S] 62 (0, 0))) [[t], [z], Bk x, Bk y, [w], [o], F]) (fun K => K.1) (ay, am, ([] : List Int), 0, none, 0) ⟨R, R, R, R, R, T0⟩ ⟨aC, h, a, r, d, i, f, g, c, m, v, aH, q⟩ ?_)
 rintro ⟨ay, an, G, D, y, S⟩ ag bS ⟨ar, h, a, r, d, i, f, g, c, m, v, H, q⟩
 rcases ay with _ | ay
 · exact (Lz ar).elim
 obtain ⟨bN, k, ar⟩ := Bs ar
 refine Cq (Cs (Xu 1 [(44, Vi D)] (Yg t 0 4 (Vl ab O ac) R R (Rf tfld53_3 _) tcell22 c nn R (Xz tsl22 R (Xu 1 [(48, Bd (D < ((O).length : Int)))] (Xk (Cn [(0, Vp o 0), (3, Vp t 0), (4, Vp z 0), (5, Vp w 0), (7, Vi D), (48, Bd (D < ((O).length : Int)))] (fun ag => ?_))))))))
 refine Ci _ R k (fun k => ?_) (fun k => ?_)
 · refine Ck (Kt (Cq (Cb (Cs (Yg t 0 4 (Vl ab O ac) R R (Rf tfld53_3 _) tcell22 c nn R (Xu 1 [(53, Vi D)] ?_))))))
   obtain ⟨ad, bL, k⟩ := Bs k
   refine Xq0 (g.el tsl22) tcell3 bL R (fun _ => R) (fun _ => Xu 1 [(8, Vi ad)] (Xk (c_join (σ := Int × Int) (fun K => match K with | (ao, af) => [(0, Vp o 0), (3, Vp t 0), (4, Vp z 0), (5, Vp w 0), (7, Vi D), (8, Vi af)]) (fun K p => match K with | (ao, af) => gen_Maker_Run_J35 G D ao af = some bN ∧ Ev [o] E p ∧ (fun A => MS p A ∧ FR E.heap.size [[t], [z], Bk x, Bk y, [w]] ∧ SlR eI p (fl A) Q U I ∧ p.heap[o]? = some (.cells #[Vl Q I U, Vi ao] 72 (0, 0)) ∧ SlR (eProd eI eI) p (fl A) Y Z J ∧ SlR eI p (fl A) ab ac O ∧ p.heap[t]? = some (.cells #[Vi ah, Vi ai, Vl Y J Z, Vi X, Vl ab O ac] 53 (0, 0)) ∧ p.heap[z]? = some (.cells #[Vi 0, Z0, Z0] 62 (0, 0)) ∧ OwnS eI 3 p (fl A) x L C ∧ OwnS eI 3 p (fl A) y S G ∧ p.heap[w]? = some (.cells #[Vi ae.1, Vl x C L, Vl y G S] 62 (0, 0))) [[t], [z], Bk x, Bk y, [w], [o], F]) ?_ ?_)))
   · refine Cs (Xu 2 [(56, Vi ad), (57, Bd (ad ≥ 0))] (Xk (Ci _ R k (fun k => ?_) (fun k => ?_))))
     · refine Cp (Xu 2 [(58, Vp o 0), (59, Vi ad)] (Yg t 0 3 (Vi X) R R (Rf tfld53_2 _) tcell3 c nn R (Xu 2 [(62, Vi (i64.wrap (ad - X))), (63, Vi ad)] (Yg t 0 3 (Vi X) R R (Rf tfld53_2 _) tcell3 c nn R (Xu 1 [(66, Vi (i64.wrap (ad + X)))] ?_)))))
       obtain ⟨B, aw, k⟩ := Bs k
       obtain ⟨au, av⟩ := Kc a [5] [0, 1, 2, 3, 4, 6]
       have ap := gen_Maker_From_w o Q U I an (i64.wrap (ad - X)) (i64.wrap (ad + X)) _ bS _ au (d.sub av) i aw
       refine Xv ap R ?_
       rintro aA ca ⟨rfl, a3, bv⟩
       obtain ⟨d, c, f, g, m, q, v, H, a⟩ := E9 (Cx.c0 a [5] a3) d c f g m q v H a
       have h := h.tv a3
       have i := bv
       refine x_min (vs := [Vi 20000, Vi B.1]) (Vi (if B.1 < 20000 then B.1 else 20000)) R R R (fun _ _ => R) (x_max (vs := [Vi 0, Vi (if B.1 < 20000 then B.1 else 20000)]) (Vi (if (if B.1 < 20000 then B.1 else 20000) > 0 then (if B.1 < 20000 then B.1 else 20000) else 0)) R R R (fun _ _ => R) (Xu 1 [(8, Vi (if (if B.1 < 20000 then B.1 else 20000) > 0 then (if B.1 < 20000 then B.1 else 20000) else 0))] (Xe R ?_)))
       exact Kt ⟨(B.2, if (if B.1 < 20000 then B.1 else 20000) > 0 then (if B.1 < 20000 then B.1 else 20000) else 0), ⟨R, R, R, R, R, R, T0⟩, k, h, a, r, d, i, f, g, c, m, v, H, q⟩
     refine Ck ?_
     exact Kt ⟨(an, ad), ⟨R, R, R, R, R, R, T0⟩, k, h, a, r, d, i, f, g, c, m, v, H, q⟩
   rintro ⟨ao, af⟩ ag cg ⟨k, h, a, r, d, i, f, g, c, m, v, H, q⟩
   refine Cp (Yg w 0 2 (Vl y G S) R R (Rf tfld62_2 _) tcell22 q nn R (Xu 1 [(72, Vi af)] (Xh #[Vi af] 3 R (fun bZ cb bx bk bo => ?_))))
   have aa := Cx.e a bo
   obtain ⟨i, d, c, f, g, m, q, v, H, a, h⟩ := E11 aa i d c f g m q v H a h
   have bG := aa.l (e := eI) bx bk 1 [af]
   have aF := Gl k
   have k := Gr k
   obtain ⟨aO, aX, cc, bC, a4, a8, b1, bI⟩ := own_appendN tel22 22 H (Mf 3 R) bG aF
   refine Xx R (Rn bC) ?_
   have aa := Cx.u a 3 a4 a8
   obtain ⟨i, d, c, f, g, m, q, v, a⟩ := E9 aa i d c f g m q v a
   have aE := r.ux 3 h a8
   have h := h.th a4 r 3
   have r := aE
   have H := bI _ aa.st.new
   refine Yf (Vp w 0) (Vp w 2) R (Rf tfld62_2 _) ?_
   obtain ⟨cd, bD, bl, a5⟩ := Sx 2 (Vl aO ((G ++ [af])) aX) tcell22 q
   refine Xp bD R ?_
   obtain ⟨i, d, c, f, g, m, v, H, a⟩ := E9 (Cx.j a 4 a5) i d c f g m v H a
   have h := h.th a5 r 4
   have q := bl
   refine Xe R (Kl (Kt (Cn [(0, Vp o 0), (3, Vp t 0), (4, Vp z 0), (5, Vp w 0), (7, Vi D)] (fun ag => ?_))))
   refine Cp (Xu 3 [(49, Vi D), (50, Vi (i64.wrap (D + 1))), (7, Vi (i64.wrap (D + 1)))] (Xe R ?_))
   obtain rfl := Sj k
   exact Kt ⟨(ay, ao, (G ++ [af]), i64.wrap (D + 1), aO, aX), ⟨R, R, R, R, R, T0⟩, ⟨ar, h, a, r, d, i, f, g, c, m, v, H, q⟩, Ns _⟩
 refine Ce (Ke ?_)
 obtain rfl := Sj k
 have aI := Sj ar
 subst aI
 have k := bg
 refine Ke (Ki (Kt (Cn [(4, Vp z 0), (5, Vp w 0)] (fun ag => ?_))))
 refine Cs (Yl _ _ R (Ra 0 [Vi ae.1, Vl x C L, Vl y G S] tagg62 q nn R) ?_)
 obtain ⟨ce, bE, bm, a6⟩ := Sa [Vi ae.1, Vl x C L, Vl y G S] tagg62 m R R R
 refine Xp bE R ?_
 obtain ⟨i, v, H, a⟩ := E4 (Cx.j a 1 a6) i v H a
 have h := h.th a6 r 1
 have m := bm
 refine Xk (Cr (Rr (Rv [.agg #[Vi ae.1, Vl x C L, Vl y G S]] ⟨⟨_, R, Lv (Ra (Mo := []) 0 [Vi ae.1, Vl x C L, Vl y G S] tagg62 m nn R)⟩, T0⟩ ?_)))
 obtain rfl := Sj k
 have bs := a.pk [2, 3, 5, 6] [Bk x, Bk y, [o], F] R
 have bc := Pk (ls := [[t], [z], Bk x, Bk y, [w], [o], F]) [2, 3, 5, 6] [Bk x, Bk y, [o], F] R
 have br := r.pk [2, 3] [Bk x, Bk y] R
 exact ⟨x, L, y, S, R, h, i, bs, br, v.sub bc, H.sub bc⟩
end Go.Proofs.YtlgdhajakblkaaaGreatDoor
