
/- Walks, printed by program: each function returns what the partial function of the same name returns. Conditions: those of each theorem. -/
import Derived.Test.YtfhkfjankgikcaaGreatGT
import Derived.Test.YtfhkfjankgikcaaGreatGrunoff
import Derived.Test.YtfhkfjankgikcaaGreatGslices
set_option linter.unusedVariables false
set_option linter.unusedSimpArgs false
set_option maxRecDepth 4000
namespace Go.Proofs.YtfhkfjankgikcaaGreat
open Go Go.V Go.Proofs Go.IntKind
def bowl_Valid_L8 (d : List Int) (e : List Int) (f : (List (Int × Bool)) × Int) : Option (Step ((List (Int × Bool)) × Int) (Unit ⊕ Unit)) :=
match f with
| (c, a) =>
(if (decide (a < ((d).length : Int))) = true then
((idx d a).bind fun b =>
(if (decide (b < 0)) = true then
some (.done (.inl ()))
else
(if ((mget c b).getD false) = true then
some (.done (.inl ()))
else
((idx e a).bind fun g =>
(if (decide (g < 1)) = true then
some (.done (.inl ()))
else
((idx e a).bind fun h =>
(if (decide (h > 400)) = true then
some (.done (.inl ()))
else
some (.next ((mput c b true), i64.wrap (a + 1))))))))))
else
some (.done (.inr ())))
def bowl_Valid (b : Int) (a : List Int) (c : List Int) : Option Bool :=
(if (decide (b < 0)) = true then
some false
else
(if (decide (b > 100000)) = true then
some false
else
(if (decide (((a).length : Int) > 96)) = true then
some false
else
(if (((c).length : Int) != ((a).length : Int)) = true then
some false
else
((loop (bowl_Valid_L8 a c) (([] : List (Int × Bool)), 0)).bind fun d => match d with
| (.inl _) => some false
| (.inr _) => some true)))))
theorem bowl_Valid_w (l h i b s t k S q n) (o : MS q [n]) (p : SlR eI q (fl [n]) h i b) (m : SlR eI q (fl [n]) s t k) (a : bowl_Valid l b k = some S) : CallVC Tryz.prog 17 [.agg #[Vi l, Vl h b i, Vl s k t]] q fun am z => am = .bool S ∧ Ev [] q z := by
 refine Cv hmx Tryz.func17 (by kernel_rfl) R (rs := [.tmp 2]) R (by kernel_rfl) (args := [.agg #[Vi l, Vl h b i, Vl s k t]]) R ?_
 have f : Ev [] q q := Ev.refl _ _
 have u : FR q.heap.size [] := FR.nil _
 refine Cs (Yb _ R (fun c ao L j K ay => ?_))
 replace j : ao.heap[c]? = some (.cells #[Vi l, Vl h b i, Vl s k t] 26 (0, 0)) := j
 refine I1 ?_
 have y := Stp.box (ls := [n]) K L
 have p := p.step y
 have m := m.step y
 have o := o.box K L j
 have u := u.box f.size L
 have f := f.ext K
 refine Xu 1 [(2, .bool false)] (Xk (Cq (Cs (Yg c 0 0 (Vi l) R R (Rf tfld26_0 _ _) tcell3 j nn R (Xu 2 [(8, Bd (l < 0)), (9, Bd (l < 0))] (Xw 9 (decide (l < 0)) R a (fun a => ?_) (fun a => ?_)))))))
 · refine Xu 19 [(10, U0), (11, U0), (12, U0), (13, .bool true), (14, .bool true), (15, U0), (16, U0), (17, U0), (18, U0), (19, .bool true), (20, .bool true), (21, U0), (22, U0), (23, U0), (24, U0), (25, U0), (26, U0), (27, U0), (28, .bool true)] (Xk (Cn [(1, Vp c 0), (28, .bool true)] (fun r => ?_)))
   refine c_true R (Cs (Xu 1 [(2, .bool false)] (Xk (Cr (Kr (Rr (Rv [.bool false] ⟨R, T0⟩ ?_)))))))
   obtain rfl := Sj a
   exact ⟨R, f⟩
 refine Yg c 0 0 (Vi l) R R (Rf tfld26_0 _ _) tcell3 j nn R (Xu 3 [(12, Bd (l > 100000)), (13, Bd (l > 100000)), (14, Bd (l > 100000))] (Xw 14 (decide (l > 100000)) R a (fun a => ?_) (fun a => ?_)))
 · refine Xu 14 [(15, U0), (16, U0), (17, U0), (18, U0), (19, .bool true), (20, .bool true), (21, U0), (22, U0), (23, U0), (24, U0), (25, U0), (26, U0), (27, U0), (28, .bool true)] (Xk (Cn [(1, Vp c 0), (28, .bool true)] (fun r => ?_)))
   refine c_true R (Cs (Xu 1 [(2, .bool false)] (Xk (Cr (Kr (Rr (Rv [.bool false] ⟨R, T0⟩ ?_)))))))
   obtain rfl := Sj a
   exact ⟨R, f⟩
 refine Yg c 0 1 (Vl h b i) R R (Rf tfld26_1 _ _) tcell22 j nn R (Xn (vs := [Vl h b i]) (Vi ((b).length : Int)) R R R (Rl tsl22 _ _ _ _ _) (Xu 3 [(18, Bd (((b).length : Int) > 96)), (19, Bd (((b).length : Int) > 96)), (20, Bd (((b).length : Int) > 96))] (Xw 20 (decide (((b).length : Int) > 96)) R a (fun a => ?_) (fun a => ?_))))
 · refine Xu 8 [(21, U0), (22, U0), (23, U0), (24, U0), (25, U0), (26, U0), (27, U0), (28, .bool true)] (Xk (Cn [(1, Vp c 0), (28, .bool true)] (fun r => ?_)))
   refine c_true R (Cs (Xu 1 [(2, .bool false)] (Xk (Cr (Kr (Rr (Rv [.bool false] ⟨R, T0⟩ ?_)))))))
   obtain rfl := Sj a
   exact ⟨R, f⟩
 refine Yg c 0 2 (Vl s k t) R R (Rf tfld26_2 _ _) tcell22 j nn R (Xn (vs := [Vl s k t]) (Vi ((k).length : Int)) R R R (Rl tsl22 _ _ _ _ _) (Yg c 0 1 (Vl h b i) R R (Rf tfld26_1 _ _) tcell22 j nn R (Xn (vs := [Vl h b i]) (Vi ((b).length : Int)) R R R (Rl tsl22 _ _ _ _ _) (Xu 2 [(27, .bool (((k).length : Int) != ((b).length : Int))), (28, .bool (((k).length : Int) != ((b).length : Int)))] (Xk (Cn [(1, Vp c 0), (28, .bool (((k).length : Int) != ((b).length : Int)))] (fun r => ?_)))))))
 refine Ci (((k).length : Int) != ((b).length : Int)) R a (fun a => ?_) (fun a => ?_)
 · refine Cs (Xu 1 [(2, .bool false)] (Xk (Cr (Kr (Rr (Rv [.bool false] ⟨R, T0⟩ ?_))))))
   obtain rfl := Sj a
   exact ⟨R, f⟩
 refine Ck (Kt (Cs (x_makeMap tmap128 none .i64 R R R (fun d ap N O I az => ?_))))
 refine I1 ?_
 have A : MapH (Value.int .i64) Value.bool ap d ([] : List (Int × Bool)) := MapH.mk O
 have y := Stp.box (ls := [[c], n]) I N
 have p := p.step y
 have m := m.step y
 have j := I.box j nn
 have o := o.box I N O
 have u := u.box f.size N
 have f := f.ext I
 refine Xu 1 [(3, .map (some d))] (Xk (Cq (Cs (Yg c 0 1 (Vl h b i) R R (Rf tfld26_1 _ _) tcell22 j nn R (Xn (vs := [Vl h b i]) (Vi ((b).length : Int)) R R R (Rl tsl22 _ _ _ _ _) (Xu 1 [(33, Vi 0)] (Xk (Cb ?_))))))))
 have ad := o.pk [1, 0, 2] [[c], [d], n] R
 have Q := Pk (ls := [[d], [c], n]) [1, 0, 2] [[c], [d], n] R
 have p := p.sub Q
 have m := m.sub Q
 have o := ad
 have u := u.pk [1, 0] [[c], [d]] R
 obtain ⟨X, J, B⟩ := Bs a
 obtain ⟨D, J⟩ := Lo J
 refine Cl (Lr hmx (σ := Nat × (List (Int × Bool)) × Int) (fun E => match E with | (_, v, g) => [(1, Vp c 0), (3, .map (some d)), (31, Vl h b i), (32, Vi ((b).length : Int)), (33, Vi g)]) (fun E z => match E with | (al, v, g) => loopN (bowl_Valid_L8 b k) al (v, g) = some X ∧ Ev [] q z ∧ MS z [[c], [d], n] ∧ FR q.heap.size [[c], [d]] ∧ SlR eI z (fl [[c], [d], n]) h i b ∧ SlR eI z (fl [[c], [d], n]) s t k ∧ z.heap[c]? = some (.cells #[Vi l, Vl h b i, Vl s k t] 26 (0, 0)) ∧ MapH (Value.int .i64) Value.bool z d v) (fun E => E.1) (D, ([] : List (Int × Bool)), 0) ⟨R, R, R, R, R, T0⟩ ⟨J, f, o, u, p, m, j, A⟩ ?_)
 rintro ⟨D, v, g⟩ r aB ⟨w, f, o, u, p, m, j, A⟩
 rcases D with _ | D
 · exact (Lz w).elim
 obtain ⟨aA, a, w⟩ := Bs w
 refine Cs (Xu 1 [(34, Bd (g < ((b).length : Int)))] (Xk (Cn [(1, Vp c 0), (3, .map (some d)), (31, Vl h b i), (32, Vi ((b).length : Int)), (33, Vi g), (34, Bd (g < ((b).length : Int)))] (fun r => ?_))))
 refine Cq (Ci (decide (g < ((b).length : Int))) R a (fun a => ?_) (fun a => ?_))
 · refine Ck (Kt (Cq (Cb (Cs (Xu 1 [(35, Vi g)] ?_)))))
   obtain ⟨e, ai, a⟩ := Bs a
   obtain ⟨aq, av, ae, Z, C⟩ := Ri (Mo := []) tsl22 p ai
   obtain rfl := C
   refine Yi _ _ _ R ae (Yl _ (Vi e) R (Rc tcell3 Z (fun _ a => by cases a)) ?_)
   refine Xu 2 [(4, Vi g), (5, Vi e)] (Xk (Cq (Cs (Xu 3 [(38, Vi e), (39, Bd (e < 0)), (40, Bd (e < 0))] (Xw 40 (decide (e < 0)) R a (fun a => ?_) (fun a => ?_))))))
   · refine Xu 20 [(41, U0), (42, U0), (43, U0), (44, .bool true), (45, .bool true), (46, U0), (47, U0), (48, U0), (49, U0), (50, U0), (51, U0), (52, .bool true), (53, .bool true), (54, U0), (55, U0), (56, U0), (57, U0), (58, U0), (59, U0), (60, .bool true)] (Xk (Cn [(1, Vp c 0), (3, .map (some d)), (5, Vi e), (31, Vl h b i), (32, Vi ((b).length : Int)), (33, Vi g), (60, .bool true)] (fun r => ?_)))
     refine c_true R (Cs (Xu 1 [(2, .bool false)] (Xk (Cr (Kr (Kb (Kr ?_)))))))
     obtain rfl := Sj a
     have x := Sj w
     subst x
     have a := B
     refine Kr (Kb (Kr (Rr (Rv [.bool false] ⟨R, T0⟩ ?_))))
     obtain rfl := Sj a
     exact ⟨R, f⟩
   refine Xu 2 [(41, .map (some d)), (42, Vi e)] (x_lookup (xv := .map (some d)) (yv := Vi e) (.bool ((mget v e).getD false)) R R R R (MapH.get tmap128 tkey3 e false (fun q => by kernel_rfl) A nn) ?_)
   refine Xu 2 [(44, .bool ((mget v e).getD false)), (45, .bool ((mget v e).getD false))] (Xw 45 ((mget v e).getD false) R a (fun a => ?_) (fun a => ?_))
   · refine Xu 15 [(46, U0), (47, U0), (48, U0), (49, U0), (50, U0), (51, U0), (52, .bool true), (53, .bool true), (54, U0), (55, U0), (56, U0), (57, U0), (58, U0), (59, U0), (60, .bool true)] (Xk (Cn [(1, Vp c 0), (3, .map (some d)), (5, Vi e), (31, Vl h b i), (32, Vi ((b).length : Int)), (33, Vi g), (60, .bool true)] (fun r => ?_)))
     refine c_true R (Cs (Xu 1 [(2, .bool false)] (Xk (Cr (Kr (Kb (Kr ?_)))))))
     obtain rfl := Sj a
     have x := Sj w
     subst x
     have a := B
     refine Kr (Kb (Kr (Rr (Rv [.bool false] ⟨R, T0⟩ ?_))))
     obtain rfl := Sj a
     exact ⟨R, f⟩
   refine Yg c 0 2 (Vl s k t) R R (Rf tfld26_2 _ _) tcell22 j nn R (Xu 1 [(48, Vi g)] ?_)
   obtain ⟨F, aj, a⟩ := Bs a
   obtain ⟨ar, aw, af, aa, C⟩ := Ri (Mo := []) tsl22 m aj
   obtain rfl := C
   refine Yi _ _ _ R af (Yl _ (Vi F) R (Rc tcell3 aa (fun _ a => by cases a)) ?_)
   refine Xu 3 [(51, Bd (F < 1)), (52, Bd (F < 1)), (53, Bd (F < 1))] (Xw 53 (decide (F < 1)) R a (fun a => ?_) (fun a => ?_))
   · refine Xu 7 [(54, U0), (55, U0), (56, U0), (57, U0), (58, U0), (59, U0), (60, .bool true)] (Xk (Cn [(1, Vp c 0), (3, .map (some d)), (5, Vi e), (31, Vl h b i), (32, Vi ((b).length : Int)), (33, Vi g), (60, .bool true)] (fun r => ?_)))
     refine c_true R (Cs (Xu 1 [(2, .bool false)] (Xk (Cr (Kr (Kb (Kr ?_)))))))
     obtain rfl := Sj a
     have x := Sj w
     subst x
     have a := B
     refine Kr (Kb (Kr (Rr (Rv [.bool false] ⟨R, T0⟩ ?_))))
     obtain rfl := Sj a
     exact ⟨R, f⟩
   refine Yg c 0 2 (Vl s k t) R R (Rf tfld26_2 _ _) tcell22 j nn R (Xu 1 [(56, Vi g)] ?_)
   obtain ⟨G, ak, a⟩ := Bs a
   obtain ⟨au, ax, ag, ab, C⟩ := Ri (Mo := []) tsl22 m ak
   obtain rfl := C
   refine Yi _ _ _ R ag (Yl _ (Vi G) R (Rc tcell3 ab (fun _ a => by cases a)) ?_)
   refine Xu 2 [(59, Bd (G > 400)), (60, Bd (G > 400))] (Xk (Cn [(1, Vp c 0), (3, .map (some d)), (5, Vi e), (31, Vl h b i), (32, Vi ((b).length : Int)), (33, Vi g), (60, Bd (G > 400))] (fun r => ?_)))
   refine Ci (decide (G > 400)) R a (fun a => ?_) (fun a => ?_)
   · refine Cs (Xu 1 [(2, .bool false)] (Xk (Cr (Kr (Kb (Kr ?_))))))
     obtain rfl := Sj a
     have x := Sj w
     subst x
     have a := B
     refine Kr (Kb (Kr (Rr (Rv [.bool false] ⟨R, T0⟩ ?_))))
     obtain rfl := Sj a
     exact ⟨R, f⟩
   refine Ck (Kt (Cp (Xu 2 [(61, .map (some d)), (62, Vi e)] ?_)))
   obtain ⟨an, ah, ac, H⟩ := MapH.upd tmap128 tkey3 e true A
   refine x_mapUpdate (xv := .map (some d)) (yv := Vi e) (zv := .bool true) an R R R R R ah (I1 ?_)
   have y := Stp.ev' (ls := [[c], [d], n]) H (Mf 1 R)
   have j := H.box j (o.apart 0 1 R R R _ mem1)
   have p := p.step y
   have m := m.step y
   have o := o.ev H
   have f := f.then H (fun U Y => .inr (u.at 1 R U Y))
   have A := ac
   refine Xe R (Kl (Kt (Cp (Xu 2 [(63, Vi (i64.wrap (g + 1))), (33, Vi (i64.wrap (g + 1)))] (Xe R ?_)))))
   obtain rfl := Sj a
   exact Kt ⟨(D, (mput v e true), i64.wrap (g + 1)), ⟨R, R, R, R, R, T0⟩, ⟨w, f, o, u, p, m, j, A⟩, Ns _⟩
 refine Ce (Ke ?_)
 obtain rfl := Sj a
 have x := Sj w
 subst x
 have a := B
 refine Ke (Ki (Kt (c_norm [] T0 (fun r => ?_))))
 refine Cs (Xu 1 [(2, .bool true)] (Xk (Cr (Rr (Rv [.bool true] ⟨R, T0⟩ ?_)))))
 obtain rfl := Sj a
 exact ⟨R, f⟩
def bowl_foul_L5 (e : List Int) (f : Int × Int × Int) : Option (Step (Int × Int × Int) (Int × Int)) :=
match f with
| (c, a, b) =>
(if (decide (b < ((e).length : Int))) = true then
((idx e b).bind fun d =>
(if (decide ((i64.wrap (a - d)) < 0)) = true then
some (.next (i64.wrap (c + 1), i64.wrap (a - d), i64.wrap (b + 1)))
else
some (.next (c, i64.wrap (a - d), i64.wrap (b + 1)))))
else
some (.done (c, a)))
def bowl_foul (c : Int) (f : List Int) (d : List Int) : Option (Int × Int) :=
((loop (bowl_foul_L5 d) (0, c, 0)).bind fun a => match a with
| (b, e) => some (b, e))
theorem bowl_foul_w (p x y u i j a E m h) (l : MS m [h]) (Y : SlR eI m (fl [h]) x y u) (f : SlR eI m (fl [h]) i j a) (c : bowl_foul p u a = some E) : CallVC Tryz.prog 19 [.agg #[Vi p, Vl x u y, Vl i a j]] m fun S w => S = .tuple #[Vi E.1, Vi E.2] ∧ Ev [] m w := by
 refine Cv hmx Tryz.func19 (by kernel_rfl) R (rs := [.tmp 2, .tmp 3]) R (by kernel_rfl) (args := [.agg #[Vi p, Vl x u y, Vl i a j]]) R ?_
 have k : Ev [] m m := Ev.refl _ _
 have n : FR m.heap.size [] := FR.nil _
 refine Cs (Yb _ R (fun t s C o B Z => ?_))
 replace o : s.heap[t]? = some (.cells #[Vi p, Vl x u y, Vl i a j] 26 (0, 0)) := o
 refine I1 ?_
 have D := Stp.box (ls := [h]) B C
 have f := f.step D
 have l := l.box B C o
 have n := n.box k.size C
 have k := k.ext B
 refine Xu 2 [(2, Vi 0), (3, Vi 0)] (Xk (Cq (Cd [] [(0, false), (1, false), (2, false), (3, false)] _ (by kernel_rfl) R ?_)))
 have D := Stp.ext (ls := [[t], h]) (Ev.drew s)
 have f := f.step D
 have o := (Ev.drew s).box o nn
 have l := l.ev (Ev.drew s)
 have k := k.ext (Ev.drew s)
 refine Yg t 0 0 (Vi p) R R (Rf tfld26_0 _ _) tcell3 o nn R (Xu 2 [(4, Vi 0), (5, Vi p)] (Xk (Cq (Cs (Yg t 0 2 (Vl i a j) R R (Rf tfld26_2 _ _) tcell22 o nn R (Xn (vs := [Vl i a j]) (Vi ((a).length : Int)) R R R (Rl tsl22 _ _ _ _ _) (Xu 1 [(13, Vi 0)] ?_)))))))
 refine Xk (Cb ?_)
 have J : MS (s).drew [h] := l.pk [1] _ R
 have L := Pk (ls := [[t], h]) [1] [h] R
 have f := f.sub L
 have l := J
 have n := n.pick [] [] R
 obtain ⟨F, A, G⟩ := Bs c
 obtain ⟨r, A⟩ := Lo A
 refine Cl (Lr hmx (σ := Nat × Int × Int × Int) (fun v => match v with | (_, d, b, e) => [(4, Vi d), (5, Vi b), (11, Vl i a j), (12, Vi ((a).length : Int)), (13, Vi e)]) (fun v w => match v with | (Q, d, b, e) => loopN (bowl_foul_L5 a) Q (d, b, e) = some F ∧ Ev [] m w ∧ MS w [h] ∧ FR m.heap.size [] ∧ SlR eI w (fl [h]) i j a) (fun v => v.1) (r, 0, p, 0) ⟨R, R, R, R, R, T0⟩ ⟨A, k, l, n, f⟩ ?_)
 rintro ⟨r, d, b, e⟩ z ab ⟨q, k, l, n, f⟩
 rcases r with _ | r
 · exact (Lz q).elim
 obtain ⟨aa, c, q⟩ := Bs q
 refine Cs (Xu 1 [(14, Bd (e < ((a).length : Int)))] (Xk (Cn [(4, Vi d), (5, Vi b), (11, Vl i a j), (12, Vi ((a).length : Int)), (13, Vi e), (14, Bd (e < ((a).length : Int)))] (fun z => ?_))))
 refine Cq (Ci (decide (e < ((a).length : Int))) R c (fun c => ?_) (fun c => ?_))
 · refine Ck (Kt (Cq (Cb (Cs ?_))))
   obtain ⟨g, N, c⟩ := Bs c
   obtain ⟨U, X, K, I, H⟩ := Ri (Mo := []) tsl22 f N
   obtain rfl := H
   refine Yi _ _ _ R K (Yl _ (Vi g) R (Rc tcell3 I (fun _ c => by cases c)) ?_)
   refine Xu 1 [(7, Vi g)] (Xk (Cs (Xu 4 [(17, Vi b), (18, Vi g), (19, Vi (i64.wrap (b - g))), (5, Vi (i64.wrap (b - g)))] (Xk (Cs (Xu 2 [(20, Vi (i64.wrap (b - g))), (21, Bd ((i64.wrap (b - g)) < 0))] (Xk (Ci (decide ((i64.wrap (b - g)) < 0)) R c (fun c => ?_) (fun c => ?_)))))))))
   · refine Cp (Xu 3 [(22, Vi d), (23, Vi (i64.wrap (d + 1))), (4, Vi (i64.wrap (d + 1)))] (Xe R (Kl (Kt (Cn [(4, Vi (i64.wrap (d + 1))), (5, Vi (i64.wrap (b - g))), (11, Vl i a j), (12, Vi ((a).length : Int)), (13, Vi e)] (fun z => ?_))))))
     refine Cp (Xu 2 [(24, Vi (i64.wrap (e + 1))), (13, Vi (i64.wrap (e + 1)))] (Xe R ?_))
     obtain rfl := Sj c
     exact Kt ⟨(r, i64.wrap (d + 1), i64.wrap (b - g), i64.wrap (e + 1)), ⟨R, R, R, R, R, T0⟩, ⟨q, k, l, n, f⟩, Ns _⟩
   refine Ck (Kl (Kt (Cp (Xu 2 [(24, Vi (i64.wrap (e + 1))), (13, Vi (i64.wrap (e + 1)))] (Xe R ?_)))))
   obtain rfl := Sj c
   exact Kt ⟨(r, d, i64.wrap (b - g), i64.wrap (e + 1)), ⟨R, R, R, R, R, T0⟩, ⟨q, k, l, n, f⟩, Ns _⟩
 refine Ce (Ke ?_)
 obtain rfl := Sj c
 have O := Sj q
 subst O
 have c := G
 refine Ke (Ki (Kt (Cn [(4, Vi d), (5, Vi b)] (fun z => ?_))))
 refine Cs (Xu 4 [(25, Vi d), (26, Vi b), (2, Vi d), (3, Vi b)] (Xk (Cr (Rr (Rv [Vi d, Vi b] ⟨R, R, T0⟩ ?_)))))
 obtain rfl := Sj c
 exact ⟨R, k⟩
def bowl_Arrive_J28 (c : Int) (a : List Int) (b : List Int) : Option ((Int × (List Int) × (List Int)) × Int × Int) :=
((bowl_Valid c a b).bind fun d =>
(if (!d) = true then
some ((0, [], []), 0, 8)
else
((bowl_foul c a b).bind fun e =>
some ((c, a, b), e.1, 0))))
def bowl_Arrive_L15 (b : List Int) (c : List Int) (d : Int) : Option (Step Int (Unit ⊕ Unit)) :=
match d with
| a =>
(if (decide (a < ((b).length : Int))) = true then
((idx b a).bind fun e =>
(if (decide (e < 0)) = true then
some (.done (.inl ()))
else
((idx c a).bind fun f =>
(if (decide (f < 1)) = true then
some (.done (.inl ()))
else
((idx c a).bind fun g =>
(if (decide (g > 400)) = true then
some (.done (.inl ()))
else
some (.next (i64.wrap (a + 1)))))))))
else
some (.done (.inr ())))
def bowl_Arrive (d : Int) (b : List Int) (e : List Int) (a : List Int) (c : List Int) : Option ((Int × (List Int) × (List Int)) × Int × Int) :=
((bowl_Valid d b e).bind fun g =>
(if (!g) = true then
some ((0, [], []), 0, 1)
else
(if (((a).length : Int) != ((c).length : Int)) = true then
some ((0, [], []), 0, 1)
else
((loop (bowl_Arrive_L15 a c) 0).bind fun f => match f with
| (.inl _) => some ((0, [], []), 0, 1)
| (.inr _) => (if (decide ((i64.wrap (((b).length : Int) + ((a).length : Int))) > 96)) = true then
some ((0, [], []), 0, 3)
else
((slices_Concat_int_int_ ([b, a] : List (List Int))).bind fun h =>
((slices_Concat_int_int_ ([e, c] : List (List Int))).bind fun i =>
bowl_Arrive_J28 d h i)))))))
set_option maxHeartbeats 8000000 in
theorem bowl_Arrive_w (x ak al N J K v X Y s y A r bo a6 d) (b : MS a6 [d]) (ah : SlR eI a6 (fl [d]) ak al N) (H : SlR eI a6 (fl [d]) J K v) (ai : SlR eI a6 (fl [d]) X Y s) (F : SlR eI a6 (fl [d]) y A r) (l : bowl_Arrive x N v s r = some bo) : CallVC Tryz.prog 6 [.agg #[Vi x, Vl ak N al, Vl J v K], Vl X s Y, Vl y r A] a6 fun aq aN => ∃ bw b5 bx b6, aq = .tuple #[.agg #[Vi bo.1.1, Vl bw bo.1.2.1 b5, Vl bx bo.1.2.2 b6], Vi bo.2.1, Vi bo.2.2] ∧ Ev [] a6 aN ∧ MS aN [Bk bw, Bk bx, d] ∧ FR a6.heap.size [Bk bw, Bk bx] ∧ OwnS eI 3 aN (fl [Bk bw, Bk bx, d]) bw b5 bo.1.2.1 ∧ OwnS eI 3 aN (fl [Bk bw, Bk bx, d]) bx b6 bo.1.2.2 := by
 refine Cv hmx Tryz.func6 (by kernel_rfl) R (rs := [.cell 6 26, .tmp 7, .tmp 8]) R (by kernel_rfl) (args := [.agg #[Vi x, Vl ak N al, Vl J v K], Vl X s Y, Vl y r A]) R ?_
 have f : Ev [] a6 a6 := Ev.refl _ _
 have j : FR a6.heap.size [] := FR.nil _
 refine Cs (Yb _ R (fun e cZ b1 aS bZ c7 => ?_))
 replace aS : cZ.heap[e]? = some (.cells #[Vi x, Vl ak N al, Vl J v K] 26 (0, 0)) := aS
 refine I1 ?_
 have g := Stp.box (ls := [d]) bZ b1
 have ah := ah.step g
 have H := H.step g
 have ai := ai.step g
 have F := F.step g
 have b := b.box bZ b1 aS
 have j := j.box f.size b1
 have f := f.ext bZ
 refine Xa (z := .agg #[Vi 0, Z0, Z0]) R R (by kernel_rfl) (fun a ch b2 i bU c8 => ?_)
 replace i : ch.heap[a]? = some (.cells #[Vi 0, Z0, Z0] 26 (0, 0)) := i
 refine I1 ?_
 have g := Stp.box (ls := [[e], d]) bU b2
 have ah := ah.step g
 have H := H.step g
 have ai := ai.step g
 have F := F.step g
 have aS := bU.box aS nn
 have b := b.box bU b2 i
 have j := j.box f.size b2
 have f := f.ext bU
 refine Xu 2 [(7, Vi 0), (8, Vi 0)] (Xk (Cq (Cs (Yl _ _ R (Ra 0 [Vi x, Vl ak N al, Vl J v K] tagg26 aS nn R) ?_))))
 obtain ⟨b3, I, l⟩ := Bs l
 have G := bowl_Valid_w x ak al N J K v _ ch (fl [[a], [e], d]) (MS.fold (P := []) b) (ah.sub fl1) (H.sub fl1) I
 refine Xc 17 #[] #[] _ _ R R R R G ?_
 rintro aq da ⟨rfl, bC⟩
 refine I1 ?_
 have g := Stp.ext (ls := [[a], [e], d]) bC
 have ah := ah.step g
 have H := H.step g
 have ai := ai.step g
 have F := F.step g
 have aS := bC.box aS nn
 have i := bC.box i nn
 have b := b.ev bC
 have f := f.ext bC
 refine Xu 2 [(16, .bool (!b3)), (17, .bool (!b3))] (Xw 17 (!b3) R l (fun l => ?_) (fun l => ?_))
 · refine Xu 6 [(18, U0), (19, U0), (20, U0), (21, U0), (22, U0), (23, .bool true)] (Xk (Cn [(1, Vl X s Y), (2, Vl y r A), (3, Vp e 0), (6, Vp a 0), (23, .bool true)] (fun bl => ?_)))
   refine c_true R (Cs (Xd (vs := []) (.agg #[Vi 0, Z0, Z0]) R R R (fun _ _ => by kernel_rfl) ?_))
   obtain ⟨cN, cw, cj, b7⟩ := Sa [Vi 0, Z0, Z0] tagg26 i R R R
   refine Ys cN _ _ R cw (I1 ?_)
   have b := b.ev b7
   have f := f.then b7 (fun ab ac => .inr (j.at 0 R ab ac))
   have i := cj
   refine Xu 2 [(7, Vi 0), (8, Vi 1)] (Xk (Cr (Kr (Rr (Rv [.agg #[Vi 0, Z0, Z0], Vi 0, Vi 1] ⟨⟨_, R, Lv (Ra (Mo := []) 0 [Vi 0, Z0, Z0] tagg26 i nn R)⟩, R, R, T0⟩ ?_)))))
   obtain rfl := Sj l
   have a3 := b.pick [none, none, some 2] [Bk none, Bk none, d] R
   have a1 := j.pick [none, none] [Bk none, Bk none] R
   exact ⟨none, 0, none, 0, R, f, a3, a1, OwnS.nil _ _ _ _, OwnS.nil _ _ _ _⟩
 refine Xu 1 [(18, Vl X s Y)] (Xn (vs := [Vl X s Y]) (Vi ((s).length : Int)) R R R (Rl tsl22 _ _ _ _ _) (Xu 1 [(20, Vl y r A)] (Xn (vs := [Vl y r A]) (Vi ((r).length : Int)) R R R (Rl tsl22 _ _ _ _ _) (Xu 2 [(22, .bool (((s).length : Int) != ((r).length : Int))), (23, .bool (((s).length : Int) != ((r).length : Int)))] (Xk (Cn [(1, Vl X s Y), (2, Vl y r A), (3, Vp e 0), (6, Vp a 0), (23, .bool (((s).length : Int) != ((r).length : Int)))] (fun bl => ?_)))))))
 refine Ci (((s).length : Int) != ((r).length : Int)) R l (fun l => ?_) (fun l => ?_)
 · refine Cs (Xd (vs := []) (.agg #[Vi 0, Z0, Z0]) R R R (fun _ _ => by kernel_rfl) ?_)
   obtain ⟨cO, cx, ck, b8⟩ := Sa [Vi 0, Z0, Z0] tagg26 i R R R
   refine Ys cO _ _ R cx (I1 ?_)
   have b := b.ev b8
   have f := f.then b8 (fun ab ac => .inr (j.at 0 R ab ac))
   have i := ck
   refine Xu 2 [(7, Vi 0), (8, Vi 1)] (Xk (Cr (Kr (Rr (Rv [.agg #[Vi 0, Z0, Z0], Vi 0, Vi 1] ⟨⟨_, R, Lv (Ra (Mo := []) 0 [Vi 0, Z0, Z0] tagg26 i nn R)⟩, R, R, T0⟩ ?_)))))
   obtain rfl := Sj l
   have a3 := b.pick [none, none, some 2] [Bk none, Bk none, d] R
   have a1 := j.pick [none, none] [Bk none, Bk none] R
   exact ⟨none, 0, none, 0, R, f, a3, a1, OwnS.nil _ _ _ _, OwnS.nil _ _ _ _⟩
 refine Ck (Kt (Cq (Cs (Xu 1 [(25, Vl X s Y)] (Xn (vs := [Vl X s Y]) (Vi ((s).length : Int)) R R R (Rl tsl22 _ _ _ _ _) (Xu 1 [(27, Vi 0)] (Xk (Cb ?_))))))))
 have am := b.pk [1, 0, 2] [[e], [a], d] R
 have L := Pk (ls := [[a], [e], d]) [1, 0, 2] [[e], [a], d] R
 have ai := ai.sub L
 have F := F.sub L
 have ah := ah.sub L
 have H := H.sub L
 have b := am
 have j := j.pk [1, 0] [[e], [a]] R
 obtain ⟨ci, bY, bS⟩ := Bs l
 obtain ⟨bL, bY⟩ := Lo bY
 refine Cl (Lr hmx (σ := Nat × Int) (fun bp => match bp with | (_, aQ) => [(1, Vl X s Y), (2, Vl y r A), (3, Vp e 0), (6, Vp a 0), (25, Vl X s Y), (26, Vi ((s).length : Int)), (27, Vi aQ)]) (fun bp aN => match bp with | (cL, aQ) => loopN (bowl_Arrive_L15 s r) cL aQ = some ci ∧ Ev [] a6 aN ∧ MS aN [[e], [a], d] ∧ FR a6.heap.size [[e], [a]] ∧ SlR eI aN (fl [[e], [a], d]) X Y s ∧ SlR eI aN (fl [[e], [a], d]) y A r ∧ SlR eI aN (fl [[e], [a], d]) ak al N ∧ SlR eI aN (fl [[e], [a], d]) J K v ∧ aN.heap[e]? = some (.cells #[Vi x, Vl ak N al, Vl J v K] 26 (0, 0)) ∧ aN.heap[a]? = some (.cells #[Vi 0, Z0, Z0] 26 (0, 0))) (fun bp => bp.1) (bL, 0) ⟨R, R, R, R, R, R, R, T0⟩ ⟨bY, f, b, j, ai, F, ah, H, aS, i⟩ ?_)
 rintro ⟨bL, aQ⟩ bl bN ⟨br, f, b, j, ai, F, ah, H, aS, i⟩
 rcases bL with _ | bL
 · exact (Lz br).elim
 obtain ⟨c9, l, br⟩ := Bs br
 refine Cs (Xu 1 [(28, Bd (aQ < ((s).length : Int)))] (Xk (Cn [(1, Vl X s Y), (2, Vl y r A), (3, Vp e 0), (6, Vp a 0), (25, Vl X s Y), (26, Vi ((s).length : Int)), (27, Vi aQ), (28, Bd (aQ < ((s).length : Int)))] (fun bl => ?_))))
 refine Cq (Ci (decide (aQ < ((s).length : Int))) R l (fun l => ?_) (fun l => ?_))
 · refine Ck (Kt (Cq (Cb (Cs (Xu 1 [(29, Vi aQ)] ?_)))))
   obtain ⟨bA, cH, l⟩ := Bs l
   obtain ⟨c1, c4, cy, cr, bB⟩ := Ri (Mo := []) tsl22 ai cH
   obtain rfl := bB
   refine Yi _ _ _ R cy (Yl _ (Vi bA) R (Rc tcell3 cr (fun _ l => by cases l)) ?_)
   refine Xu 2 [(9, Vi aQ), (10, Vi bA)] (Xk (Cs (Xu 3 [(32, Vi bA), (33, Bd (bA < 0)), (34, Bd (bA < 0))] (Xw 34 (decide (bA < 0)) R l (fun l => ?_) (fun l => ?_)))))
   · refine Xu 13 [(35, U0), (36, U0), (37, U0), (38, U0), (39, U0), (40, .bool true), (41, .bool true), (42, U0), (43, U0), (44, U0), (45, U0), (46, U0), (47, .bool true)] (Xk (Cn [(1, Vl X s Y), (2, Vl y r A), (3, Vp e 0), (6, Vp a 0), (25, Vl X s Y), (26, Vi ((s).length : Int)), (27, Vi aQ), (47, .bool true)] (fun bl => ?_)))
     refine c_true R (Cs (Xd (vs := []) (.agg #[Vi 0, Z0, Z0]) R R R (fun _ _ => by kernel_rfl) ?_))
     obtain ⟨cQ, cz, cl, b9⟩ := Sa [Vi 0, Z0, Z0] tagg26 i R R R
     refine Ys cQ _ _ R cz (I1 ?_)
     have b := b.ev b9
     have f := f.then b9 (fun ab ac => .inr (j.at 1 R ab ac))
     have i := cl
     refine Xu 2 [(7, Vi 0), (8, Vi 1)] (Xk (Cr (Kb (Kr ?_))))
     obtain rfl := Sj l
     have bv := Sj br
     subst bv
     have l := bS
     refine Kr (Kb (Kr (Rr (Rv [.agg #[Vi 0, Z0, Z0], Vi 0, Vi 1] ⟨⟨_, R, Lv (Ra (Mo := []) 0 [Vi 0, Z0, Z0] tagg26 i nn R)⟩, R, R, T0⟩ ?_))))
     obtain rfl := Sj l
     have a3 := b.pick [none, none, some 2] [Bk none, Bk none, d] R
     have a1 := j.pick [none, none] [Bk none, Bk none] R
     exact ⟨none, 0, none, 0, R, f, a3, a1, OwnS.nil _ _ _ _, OwnS.nil _ _ _ _⟩
   refine Xu 2 [(35, Vl y r A), (36, Vi aQ)] ?_
   obtain ⟨bO, cI, l⟩ := Bs l
   obtain ⟨c2, c5, cA, ct, bB⟩ := Ri (Mo := []) tsl22 F cI
   obtain rfl := bB
   refine Yi _ _ _ R cA (Yl _ (Vi bO) R (Rc tcell3 ct (fun _ l => by cases l)) ?_)
   refine Xu 3 [(39, Bd (bO < 1)), (40, Bd (bO < 1)), (41, Bd (bO < 1))] (Xw 41 (decide (bO < 1)) R l (fun l => ?_) (fun l => ?_))
   · refine Xu 6 [(42, U0), (43, U0), (44, U0), (45, U0), (46, U0), (47, .bool true)] (Xk (Cn [(1, Vl X s Y), (2, Vl y r A), (3, Vp e 0), (6, Vp a 0), (25, Vl X s Y), (26, Vi ((s).length : Int)), (27, Vi aQ), (47, .bool true)] (fun bl => ?_)))
     refine c_true R (Cs (Xd (vs := []) (.agg #[Vi 0, Z0, Z0]) R R R (fun _ _ => by kernel_rfl) ?_))
     obtain ⟨cS, cB, cm, ca⟩ := Sa [Vi 0, Z0, Z0] tagg26 i R R R
     refine Ys cS _ _ R cB (I1 ?_)
     have b := b.ev ca
     have f := f.then ca (fun ab ac => .inr (j.at 1 R ab ac))
     have i := cm
     refine Xu 2 [(7, Vi 0), (8, Vi 1)] (Xk (Cr (Kb (Kr ?_))))
     obtain rfl := Sj l
     have bv := Sj br
     subst bv
     have l := bS
     refine Kr (Kb (Kr (Rr (Rv [.agg #[Vi 0, Z0, Z0], Vi 0, Vi 1] ⟨⟨_, R, Lv (Ra (Mo := []) 0 [Vi 0, Z0, Z0] tagg26 i nn R)⟩, R, R, T0⟩ ?_))))
     obtain rfl := Sj l
     have a3 := b.pick [none, none, some 2] [Bk none, Bk none, d] R
     have a1 := j.pick [none, none] [Bk none, Bk none] R
     exact ⟨none, 0, none, 0, R, f, a3, a1, OwnS.nil _ _ _ _, OwnS.nil _ _ _ _⟩
   refine Xu 2 [(42, Vl y r A), (43, Vi aQ)] ?_
   obtain ⟨bQ, cJ, l⟩ := Bs l
   obtain ⟨c3, c6, cC, cu, bB⟩ := Ri (Mo := []) tsl22 F cJ
   obtain rfl := bB
   refine Yi _ _ _ R cC (Yl _ (Vi bQ) R (Rc tcell3 cu (fun _ l => by cases l)) ?_)
   refine Xu 2 [(46, Bd (bQ > 400)), (47, Bd (bQ > 400))] (Xk (Cn [(1, Vl X s Y), (2, Vl y r A), (3, Vp e 0), (6, Vp a 0), (25, Vl X s Y), (26, Vi ((s).length : Int)), (27, Vi aQ), (47, Bd (bQ > 400))] (fun bl => ?_)))
   refine Ci (decide (bQ > 400)) R l (fun l => ?_) (fun l => ?_)
   · refine Cs (Xd (vs := []) (.agg #[Vi 0, Z0, Z0]) R R R (fun _ _ => by kernel_rfl) ?_)
     obtain ⟨cU, cD, cn, cb⟩ := Sa [Vi 0, Z0, Z0] tagg26 i R R R
     refine Ys cU _ _ R cD (I1 ?_)
     have b := b.ev cb
     have f := f.then cb (fun ab ac => .inr (j.at 1 R ab ac))
     have i := cn
     refine Xu 2 [(7, Vi 0), (8, Vi 1)] (Xk (Cr (Kb (Kr ?_))))
     obtain rfl := Sj l
     have bv := Sj br
     subst bv
     have l := bS
     refine Kr (Kb (Kr (Rr (Rv [.agg #[Vi 0, Z0, Z0], Vi 0, Vi 1] ⟨⟨_, R, Lv (Ra (Mo := []) 0 [Vi 0, Z0, Z0] tagg26 i nn R)⟩, R, R, T0⟩ ?_))))
     obtain rfl := Sj l
     have a3 := b.pick [none, none, some 2] [Bk none, Bk none, d] R
     have a1 := j.pick [none, none] [Bk none, Bk none] R
     exact ⟨none, 0, none, 0, R, f, a3, a1, OwnS.nil _ _ _ _, OwnS.nil _ _ _ _⟩
   refine Ck (Kl (Kt (Cp (Xu 2 [(49, Vi (i64.wrap (aQ + 1))), (27, Vi (i64.wrap (aQ + 1)))] (Xe R ?_)))))
   obtain rfl := Sj l
   exact Kt ⟨(bL, i64.wrap (aQ + 1)), ⟨R, R, R, R, R, R, R, T0⟩, ⟨br, f, b, j, ai, F, ah, H, aS, i⟩, Ns _⟩
 refine Ce (Ke ?_)
 obtain rfl := Sj l
 have bv := Sj br
 subst bv
 have l := bS
 refine Ke (Ki (Kt (Cn [(1, Vl X s Y), (2, Vl y r A), (3, Vp e 0), (6, Vp a 0)] (fun bl => ?_))))
 refine Cq (Cs (Yg e 0 1 (Vl ak N al) R R (Rf tfld26_1 _ _) tcell22 aS nn R (Xn (vs := [Vl ak N al]) (Vi ((N).length : Int)) R R R (Rl tsl22 _ _ _ _ _) (Xu 1 [(53, Vl X s Y)] (Xn (vs := [Vl X s Y]) (Vi ((s).length : Int)) R R R (Rl tsl22 _ _ _ _ _) (Xu 2 [(55, Vi (i64.wrap (((N).length : Int) + ((s).length : Int)))), (56, Bd ((i64.wrap (((N).length : Int) + ((s).length : Int))) > 96))] (Xk (Ci (decide ((i64.wrap (((N).length : Int) + ((s).length : Int))) > 96)) R l (fun l => ?_) (fun l => ?_)))))))))
 · refine Cs (Xd (vs := []) (.agg #[Vi 0, Z0, Z0]) R R R (fun _ _ => by kernel_rfl) ?_)
   obtain ⟨cX, cE, co, cc⟩ := Sa [Vi 0, Z0, Z0] tagg26 i R R R
   refine Ys cX _ _ R cE (I1 ?_)
   have b := b.ev cc
   have f := f.then cc (fun ab ac => .inr (j.at 1 R ab ac))
   have i := co
   refine Xu 2 [(7, Vi 0), (8, Vi 3)] (Xk (Cr (Kr (Rr (Rv [.agg #[Vi 0, Z0, Z0], Vi 0, Vi 3] ⟨⟨_, R, Lv (Ra (Mo := []) 0 [Vi 0, Z0, Z0] tagg26 i nn R)⟩, R, R, T0⟩ ?_)))))
   obtain rfl := Sj l
   have a3 := b.pick [none, none, some 2] [Bk none, Bk none, d] R
   have a1 := j.pick [none, none] [Bk none, Bk none] R
   exact ⟨none, 0, none, 0, R, f, a3, a1, OwnS.nil _ _ _ _, OwnS.nil _ _ _ _⟩
 refine Ck (Kt (c_join (σ := (List Int) × (List Int) × Nat × Option Addr × Nat × Option Addr × Nat) (fun bp => match bp with | (bb, bc, aG, aE, a9, aF, ba) => [(6, Vp a 0), (11, Vp aG 0)]) (fun bp aN => match bp with | (bb, bc, aG, aE, a9, aF, ba) => bowl_Arrive_J28 x bb bc = some bo ∧ Ev [] a6 aN ∧ MS aN [[a], Bk aE, Bk aF, [aG], d] ∧ FR a6.heap.size [[a], Bk aE, Bk aF, [aG]] ∧ aN.heap[a]? = some (.cells #[Vi 0, Z0, Z0] 26 (0, 0)) ∧ OwnS eI 3 aN (fl [[a], Bk aE, Bk aF, [aG], d]) aE a9 bb ∧ OwnS eI 3 aN (fl [[a], Bk aE, Bk aF, [aG], d]) aF ba bc ∧ aN.heap[aG]? = some (.cells #[Vi x, Vl aE bb a9, Vl aF bc ba] 26 (0, 0))) ?_ ?_))
 · refine c_drawnp [] [(0, false), (1, false), (2, false), (3, false), (4, false), (7, false), (8, false), (9, false)] (.alt 5 false (opsThen [] (.alt 6 false (opsThen [] (.alt 10 false (opsThen [] (.alt 11 false (opsThen [(12, false), (13, false), (14, true)] .stop) (.alt 13 false (opsThen [(11, false), (12, false), (14, true)] .stop) .none_))) (.alt 13 false (opsThen [(10, false), (11, false), (12, false), (14, true)] .stop) .none_))) (.alt 10 false (opsThen [] (.alt 6 false (opsThen [] (.alt 11 false (opsThen [(12, false), (13, false), (14, true)] .stop) (.alt 13 false (opsThen [(11, false), (12, false), (14, true)] .stop) .none_))) (.alt 13 false (opsThen [(6, false), (11, false), (12, false), (14, true)] .stop) .none_))) (.alt 13 false (opsThen [] (.alt 6 false (opsThen [(10, false), (11, false), (12, false), (14, true)] .stop) (.alt 10 false (opsThen [(6, false), (11, false), (12, false), (14, true)] .stop) .none_))) .none_)))) (.alt 10 false (opsThen [] (.alt 5 false (opsThen [] (.alt 6 false (opsThen [] (.alt 11 false (opsThen [(12, false), (13, false), (14, true)] .stop) (.alt 13 false (opsThen [(11, false), (12, false), (14, true)] .stop) .none_))) (.alt 13 false (opsThen [(6, false), (11, false), (12, false), (14, true)] .stop) .none_))) (.alt 13 false (opsThen [(5, false), (6, false), (11, false), (12, false), (14, true)] .stop) .none_))) (.alt 13 false (opsThen [] (.alt 5 false (opsThen [] (.alt 6 false (opsThen [(10, false), (11, false), (12, false), (14, true)] .stop) (.alt 10 false (opsThen [(6, false), (11, false), (12, false), (14, true)] .stop) .none_))) (.alt 10 false (opsThen [(5, false), (6, false), (11, false), (12, false), (14, true)] .stop) .none_))) .none_))) _ (by kernel_rfl) R ?_
   have g := Stp.ext (ls := [[e], [a], d]) (Ev.drew bN)
   have ai := ai.step g
   have F := F.step g
   have aS := (Ev.drew bN).box aS nn
   have ah := ah.step g
   have H := H.step g
   have i := (Ev.drew bN).box i nn
   have b := b.ev (Ev.drew bN)
   have f := f.ext (Ev.drew bN)
   refine Yg e 0 0 (Vi x) R R (Rf tfld26_0 _ _) tcell3 aS nn R (Yg e 0 1 (Vl ak N al) R R (Rf tfld26_1 _ _) tcell22 aS nn R (Xu 1 [(62, Vl X s Y)] (Yg e 0 2 (Vl J v K) R R (Rf tfld26_2 _ _) tcell22 aS nn R (Xu 1 [(67, Vl y r A)] (Xe R (t_alt _ R ?_ ?_))))))
   · refine Xb (vs := [(0, Vl ak N al), (1, Vl X s Y)]) #[Vl ak N al, Vl X s Y] 22 R R R (by kernel_rfl) (fun u bz bu ag aU cd => ?_)
     refine ⟨.inr aU, ?_⟩
     have aC := b
     have g := Stp.ext (ls := [[e], [a], d]) aU
     have ai := ai.step g
     have F := F.step g
     have ah := ah.step g
     have H := H.step g
     have i := aU.box i nn
     have b := b.ev aU
     have f := f.ext aU
     have an : SlR (eSl eI) bz (fl [[e], [a], d]) (Ad u 0) 2 ([N, s] : List (List Int)) := ro_of_box aC bu ag R R (cells_at (cs := [Vl ak N al, Vl X s Y]) (CellsOf.cons (c := [Vl ak N al]) ⟨ak, al, R, ah⟩ (CellsOf.cons (c := [Vl X s Y]) ⟨X, Y, R, ai⟩ CellsOf.nil)))
     refine Xe R (t_alt _ R ?_ ?_)
     · obtain ⟨bf, I, l⟩ := Bs l
       have G := slices_Concat_int_int__w (Ad u 0) 2 ([N, s] : List (List Int)) _ bz (fl [[e], [a], d]) (MS.fold (P := []) b) (an.sub fl1) I
       refine Xc 18 #[] #[] _ _ R R R R G ?_
       rintro aq cf ⟨E, bd, rfl, bq, cv, b0, ao⟩
       refine ⟨.inr bq, ?_⟩
       have g := Stp.call0 [[e], [a], d] [Bk E] [Bk E, [e], [a], d] bq b0 R
       have F := F.step g
       have H := H.step g
       have i := bq.box i nn
       have b := MS.call0 [Bk E] [Bk E, [e], [a], d] b bq cv b0 R
       have Q := FR.call0 [Bk E, [e], [a]] f.size b0 j R
       have f := f.ext bq
       have j := Q
       have ao := OwnS.plain (M' := fl [Bk E, [e], [a], d]) (Pi _) ao
       refine Xe R (t_alt _ R ?_ ?_)
       · refine Xb (vs := [(0, Vl J v K), (1, Vl y r A)]) #[Vl J v K, Vl y r A] 22 R R R (by kernel_rfl) (fun aO bk bF be Z cK => ?_)
         refine ⟨.inr Z, ?_⟩
         have aC := b
         have g := Stp.ext (ls := [Bk E, [e], [a], d]) Z
         have F := F.step g
         have H := H.step g
         have i := Z.box i nn
         have ao := ao.step g Z nn2
         have b := b.ev Z
         have f := f.ext Z
         have bX : SlR (eSl eI) bk (fl [Bk E, [e], [a], d]) (Ad aO 0) 2 ([v, r] : List (List Int)) := ro_of_box aC bF be R R (cells_at (cs := [Vl J v K, Vl y r A]) (CellsOf.cons (c := [Vl J v K]) ⟨J, K, R, H⟩ (CellsOf.cons (c := [Vl y r A]) ⟨y, A, R, F⟩ CellsOf.nil)))
         refine Xe R (t_alt _ R ?_ ?_)
         · obtain ⟨a8, I, l⟩ := Bs l
           have G := slices_Concat_int_int__w (Ad aO 0) 2 ([v, r] : List (List Int)) _ bk (fl [Bk E, [e], [a], d]) (MS.fold (P := []) b) (bX.sub fl1) I
           refine Xc 18 #[] #[] _ _ R R R R G ?_
           rintro aq cg ⟨S, a7, rfl, aL, bE, bg, aw⟩
           refine ⟨.inr aL, ?_⟩
           have g := Stp.call0 [Bk E, [e], [a], d] [Bk S] [Bk S, Bk E, [e], [a], d] aL bg R
           have i := aL.box i nn
           have ao := ao.step g aL nn2
           have b := MS.call0 [Bk S] [Bk S, Bk E, [e], [a], d] b aL bE bg R
           have Q := FR.call0 [Bk S, Bk E, [e], [a]] f.size bg j R
           have f := f.ext aL
           have j := Q
           have aw := OwnS.plain (M' := fl [Bk S, Bk E, [e], [a], d]) (Pi _) aw
           refine Xd (vs := [(0, Vi x), (1, Vl E bf bd), (2, Vl S a8 a7)]) (.agg #[Vi x, Vl E bf bd, Vl S a8 a7]) R R R (fun _ _ => by kernel_rfl) ?_
           refine Xa (z := .agg #[Vi 0, Z0, Z0]) R R (by kernel_rfl) (fun aH a0 bi aK n ce => ?_)
           replace aK : a0.heap[aH]? = some (.cells #[Vi 0, Z0, Z0] 26 (0, 0)) := aK
           refine ⟨.inr n, ?_⟩
           have g := Stp.box (ls := [Bk S, Bk E, [e], [a], d]) n bi
           have i := n.box i nn
           have ao := ao.step g n nn2
           have aw := aw.step g n nn2
           have b := b.box n bi aK
           have j := j.box f.size bi
           have f := f.ext n
           obtain ⟨az, ax, av, o⟩ := Sa [Vi x, Vl E bf bd, Vl S a8 a7] tagg26 aK R R R
           refine Ys az _ _ R ax (I1 ?_)
           have g := Stp.ev' (ls := [[aH], Bk S, Bk E, [e], [a], d]) o (Mf 0 R)
           have i := o.box i (b.apart 4 0 R R R _ mem1)
           have ao := ao.step g o (b.apart 2 0 R R R)
           have aw := aw.step g o (b.apart 1 0 R R R)
           have b := b.ev o
           have f := f.then o (fun ab ac => .inr (j.at 0 R ab ac))
           have aK := av
           refine Xe R (t_stop ?_)
           have am := b.pk [4, 2, 1, 0, 5] [[a], Bk E, Bk S, [aH], d] R
           have L := Pk (ls := [[aH], Bk S, Bk E, [e], [a], d]) [4, 2, 1, 0, 5] [[a], Bk E, Bk S, [aH], d] R
           have ao := ao.sub L
           have aw := aw.sub L
           have b := am
           have j := j.pk [4, 2, 1, 0] [[a], Bk E, Bk S, [aH]] R
           exact Kt ⟨(bf, a8, aH, E, bd, S, a7), ⟨R, R, T0⟩, l, f, b, j, i, ao, aw, aK⟩
         refine t_alt _ R ?_ ?_
         · refine Xa (z := .agg #[Vi 0, Z0, Z0]) R R (by kernel_rfl) (fun U ay aX ap q bK => ?_)
           replace ap : ay.heap[U]? = some (.cells #[Vi 0, Z0, Z0] 26 (0, 0)) := ap
           refine ⟨.inr q, ?_⟩
           have g := Stp.box (ls := [Bk E, [e], [a], d]) q aX
           have i := q.box i nn
           have ao := ao.step g q nn2
           have bX := bX.step g
           have b := b.box q aX ap
           have j := j.box f.size aX
           have f := f.ext q
           obtain ⟨D, I, l⟩ := Bs l
           have G := slices_Concat_int_int__w (Ad aO 0) 2 ([v, r] : List (List Int)) _ ay (fl [[U], Bk E, [e], [a], d]) (MS.fold (P := []) b) (bX.sub fl1) I
           refine Xc 18 #[] #[] _ _ R R R R G ?_
           rintro aq a0 ⟨h, B, rfl, n, aJ, aa, p⟩
           refine ⟨.inr n, ?_⟩
           have g := Stp.call0 [[U], Bk E, [e], [a], d] [Bk h] [Bk h, [U], Bk E, [e], [a], d] n aa R
           have i := n.box i nn
           have ao := ao.step g n nn2
           have ap := n.box ap nn
           have b := MS.call0 [Bk h] [Bk h, [U], Bk E, [e], [a], d] b n aJ aa R
           have Q := FR.call0 [Bk h, [U], Bk E, [e], [a]] f.size aa j R
           have f := f.ext n
           have j := Q
           have p := OwnS.plain (M' := fl [Bk h, [U], Bk E, [e], [a], d]) (Pi _) p
           refine Xd (vs := [(0, Vi x), (1, Vl E bf bd), (2, Vl h D B)]) (.agg #[Vi x, Vl E bf bd, Vl h D B]) R R R (fun _ _ => by kernel_rfl) ?_
           obtain ⟨az, ax, av, o⟩ := Sa [Vi x, Vl E bf bd, Vl h D B] tagg26 ap R R R
           refine Ys az _ _ R ax (I1 ?_)
           have g := Stp.ev' (ls := [Bk h, [U], Bk E, [e], [a], d]) o (Mf 1 R)
           have i := o.box i (b.apart 4 1 R R R _ mem1)
           have ao := ao.step g o (b.apart 2 1 R R R)
           have p := p.step g o (b.apart 0 1 R R R)
           have b := b.ev o
           have f := f.then o (fun ab ac => .inr (j.at 1 R ab ac))
           have ap := av
           refine Xe R (t_stop ?_)
           have am := b.pk [4, 2, 0, 1, 5] [[a], Bk E, Bk h, [U], d] R
           have L := Pk (ls := [Bk h, [U], Bk E, [e], [a], d]) [4, 2, 0, 1, 5] [[a], Bk E, Bk h, [U], d] R
           have ao := ao.sub L
           have p := p.sub L
           have b := am
           have j := j.pk [4, 2, 0, 1] [[a], Bk E, Bk h, [U]] R
           exact Kt ⟨(bf, D, U, E, bd, h, B), ⟨R, R, T0⟩, l, f, b, j, i, ao, p, ap⟩
         exact t_none
       refine t_alt _ R ?_ ?_
       · refine Xa (z := .agg #[Vi 0, Z0, Z0]) R R (by kernel_rfl) (fun aO bk bF be Z cK => ?_)
         replace be : bk.heap[aO]? = some (.cells #[Vi 0, Z0, Z0] 26 (0, 0)) := be
         refine ⟨.inr Z, ?_⟩
         have g := Stp.box (ls := [Bk E, [e], [a], d]) Z bF
         have F := F.step g
         have H := H.step g
         have i := Z.box i nn
         have ao := ao.step g Z nn2
         have b := b.box Z bF be
         have j := j.box f.size bF
         have f := f.ext Z
         refine Xb (vs := [(0, Vl J v K), (1, Vl y r A)]) #[Vl J v K, Vl y r A] 22 R R R (by kernel_rfl) (fun U ay aX ap q bK => ?_)
         refine ⟨.inr q, ?_⟩
         have aC := b
         have g := Stp.ext (ls := [[aO], Bk E, [e], [a], d]) q
         have F := F.step g
         have H := H.step g
         have i := q.box i nn
         have ao := ao.step g q nn2
         have be := q.box be nn
         have b := b.ev q
         have f := f.ext q
         have bG : SlR (eSl eI) ay (fl [[aO], Bk E, [e], [a], d]) (Ad U 0) 2 ([v, r] : List (List Int)) := ro_of_box aC aX ap R R (cells_at (cs := [Vl J v K, Vl y r A]) (CellsOf.cons (c := [Vl J v K]) ⟨J, K, R, H⟩ (CellsOf.cons (c := [Vl y r A]) ⟨y, A, R, F⟩ CellsOf.nil)))
         obtain ⟨D, I, l⟩ := Bs l
         have G := slices_Concat_int_int__w (Ad U 0) 2 ([v, r] : List (List Int)) _ ay (fl [[aO], Bk E, [e], [a], d]) (MS.fold (P := []) b) (bG.sub fl1) I
         refine Xc 18 #[] #[] _ _ R R R R G ?_
         rintro aq a0 ⟨h, B, rfl, n, aJ, aa, p⟩
         refine ⟨.inr n, ?_⟩
         have g := Stp.call0 [[aO], Bk E, [e], [a], d] [Bk h] [Bk h, [aO], Bk E, [e], [a], d] n aa R
         have i := n.box i nn
         have ao := ao.step g n nn2
         have be := n.box be nn
         have b := MS.call0 [Bk h] [Bk h, [aO], Bk E, [e], [a], d] b n aJ aa R
         have Q := FR.call0 [Bk h, [aO], Bk E, [e], [a]] f.size aa j R
         have f := f.ext n
         have j := Q
         have p := OwnS.plain (M' := fl [Bk h, [aO], Bk E, [e], [a], d]) (Pi _) p
         refine Xd (vs := [(0, Vi x), (1, Vl E bf bd), (2, Vl h D B)]) (.agg #[Vi x, Vl E bf bd, Vl h D B]) R R R (fun _ _ => by kernel_rfl) ?_
         obtain ⟨az, ax, av, o⟩ := Sa [Vi x, Vl E bf bd, Vl h D B] tagg26 be R R R
         refine Ys az _ _ R ax (I1 ?_)
         have g := Stp.ev' (ls := [Bk h, [aO], Bk E, [e], [a], d]) o (Mf 1 R)
         have i := o.box i (b.apart 4 1 R R R _ mem1)
         have ao := ao.step g o (b.apart 2 1 R R R)
         have p := p.step g o (b.apart 0 1 R R R)
         have b := b.ev o
         have f := f.then o (fun ab ac => .inr (j.at 1 R ab ac))
         have be := av
         refine Xe R (t_stop ?_)
         have am := b.pk [4, 2, 0, 1, 5] [[a], Bk E, Bk h, [aO], d] R
         have L := Pk (ls := [Bk h, [aO], Bk E, [e], [a], d]) [4, 2, 0, 1, 5] [[a], Bk E, Bk h, [aO], d] R
         have ao := ao.sub L
         have p := p.sub L
         have b := am
         have j := j.pk [4, 2, 0, 1] [[a], Bk E, Bk h, [aO]] R
         exact Kt ⟨(bf, D, aO, E, bd, h, B), ⟨R, R, T0⟩, l, f, b, j, i, ao, p, be⟩
       exact t_none
     refine t_alt _ R ?_ ?_
     · refine Xb (vs := [(0, Vl J v K), (1, Vl y r A)]) #[Vl J v K, Vl y r A] 22 R R R (by kernel_rfl) (fun t aY a4 ae ad bI => ?_)
       refine ⟨.inr ad, ?_⟩
       have aC := b
       have g := Stp.ext (ls := [[e], [a], d]) ad
       have F := F.step g
       have H := H.step g
       have i := ad.box i nn
       have an := an.step g
       have b := b.ev ad
       have f := f.ext ad
       have aD : SlR (eSl eI) aY (fl [[e], [a], d]) (Ad t 0) 2 ([v, r] : List (List Int)) := ro_of_box aC a4 ae R R (cells_at (cs := [Vl J v K, Vl y r A]) (CellsOf.cons (c := [Vl J v K]) ⟨J, K, R, H⟩ (CellsOf.cons (c := [Vl y r A]) ⟨y, A, R, F⟩ CellsOf.nil)))
       refine Xe R (t_alt _ R ?_ ?_)
       · obtain ⟨aj, I, l⟩ := Bs l
         have G := slices_Concat_int_int__w (Ad u 0) 2 ([N, s] : List (List Int)) _ aY (fl [[e], [a], d]) (MS.fold (P := []) b) (an.sub fl1) I
         refine Xc 18 #[] #[] _ _ R R R R G ?_
         rintro aq bk ⟨m, aB, rfl, Z, bt, a2, w⟩
         refine ⟨.inr Z, ?_⟩
         have g := Stp.call0 [[e], [a], d] [Bk m] [Bk m, [e], [a], d] Z a2 R
         have i := Z.box i nn
         have aD := aD.step g
         have b := MS.call0 [Bk m] [Bk m, [e], [a], d] b Z bt a2 R
         have Q := FR.call0 [Bk m, [e], [a]] f.size a2 j R
         have f := f.ext Z
         have j := Q
         have w := OwnS.plain (M' := fl [Bk m, [e], [a], d]) (Pi _) w
         refine Xe R (t_alt _ R ?_ ?_)
         · obtain ⟨a8, I, l⟩ := Bs l
           have G := slices_Concat_int_int__w (Ad t 0) 2 ([v, r] : List (List Int)) _ bk (fl [Bk m, [e], [a], d]) (MS.fold (P := []) b) (aD.sub fl1) I
           refine Xc 18 #[] #[] _ _ R R R R G ?_
           rintro aq cg ⟨S, a7, rfl, aL, bE, bg, aw⟩
           refine ⟨.inr aL, ?_⟩
           have g := Stp.call0 [Bk m, [e], [a], d] [Bk S] [Bk S, Bk m, [e], [a], d] aL bg R
           have i := aL.box i nn
           have w := w.step g aL nn2
           have b := MS.call0 [Bk S] [Bk S, Bk m, [e], [a], d] b aL bE bg R
           have Q := FR.call0 [Bk S, Bk m, [e], [a]] f.size bg j R
           have f := f.ext aL
           have j := Q
           have aw := OwnS.plain (M' := fl [Bk S, Bk m, [e], [a], d]) (Pi _) aw
           refine Xd (vs := [(0, Vi x), (1, Vl m aj aB), (2, Vl S a8 a7)]) (.agg #[Vi x, Vl m aj aB, Vl S a8 a7]) R R R (fun _ _ => by kernel_rfl) ?_
           refine Xa (z := .agg #[Vi 0, Z0, Z0]) R R (by kernel_rfl) (fun aH a0 bi aK n ce => ?_)
           replace aK : a0.heap[aH]? = some (.cells #[Vi 0, Z0, Z0] 26 (0, 0)) := aK
           refine ⟨.inr n, ?_⟩
           have g := Stp.box (ls := [Bk S, Bk m, [e], [a], d]) n bi
           have i := n.box i nn
           have w := w.step g n nn2
           have aw := aw.step g n nn2
           have b := b.box n bi aK
           have j := j.box f.size bi
           have f := f.ext n
           obtain ⟨az, ax, av, o⟩ := Sa [Vi x, Vl m aj aB, Vl S a8 a7] tagg26 aK R R R
           refine Ys az _ _ R ax (I1 ?_)
           have g := Stp.ev' (ls := [[aH], Bk S, Bk m, [e], [a], d]) o (Mf 0 R)
           have i := o.box i (b.apart 4 0 R R R _ mem1)
           have w := w.step g o (b.apart 2 0 R R R)
           have aw := aw.step g o (b.apart 1 0 R R R)
           have b := b.ev o
           have f := f.then o (fun ab ac => .inr (j.at 0 R ab ac))
           have aK := av
           refine Xe R (t_stop ?_)
           have am := b.pk [4, 2, 1, 0, 5] [[a], Bk m, Bk S, [aH], d] R
           have L := Pk (ls := [[aH], Bk S, Bk m, [e], [a], d]) [4, 2, 1, 0, 5] [[a], Bk m, Bk S, [aH], d] R
           have w := w.sub L
           have aw := aw.sub L
           have b := am
           have j := j.pk [4, 2, 1, 0] [[a], Bk m, Bk S, [aH]] R
           exact Kt ⟨(aj, a8, aH, m, aB, S, a7), ⟨R, R, T0⟩, l, f, b, j, i, w, aw, aK⟩
         refine t_alt _ R ?_ ?_
         · refine Xa (z := .agg #[Vi 0, Z0, Z0]) R R (by kernel_rfl) (fun U ay aX ap q bK => ?_)
           replace ap : ay.heap[U]? = some (.cells #[Vi 0, Z0, Z0] 26 (0, 0)) := ap
           refine ⟨.inr q, ?_⟩
           have g := Stp.box (ls := [Bk m, [e], [a], d]) q aX
           have i := q.box i nn
           have aD := aD.step g
           have w := w.step g q nn2
           have b := b.box q aX ap
           have j := j.box f.size aX
           have f := f.ext q
           obtain ⟨D, I, l⟩ := Bs l
           have G := slices_Concat_int_int__w (Ad t 0) 2 ([v, r] : List (List Int)) _ ay (fl [[U], Bk m, [e], [a], d]) (MS.fold (P := []) b) (aD.sub fl1) I
           refine Xc 18 #[] #[] _ _ R R R R G ?_
           rintro aq a0 ⟨h, B, rfl, n, aJ, aa, p⟩
           refine ⟨.inr n, ?_⟩
           have g := Stp.call0 [[U], Bk m, [e], [a], d] [Bk h] [Bk h, [U], Bk m, [e], [a], d] n aa R
           have i := n.box i nn
           have w := w.step g n nn2
           have ap := n.box ap nn
           have b := MS.call0 [Bk h] [Bk h, [U], Bk m, [e], [a], d] b n aJ aa R
           have Q := FR.call0 [Bk h, [U], Bk m, [e], [a]] f.size aa j R
           have f := f.ext n
           have j := Q
           have p := OwnS.plain (M' := fl [Bk h, [U], Bk m, [e], [a], d]) (Pi _) p
           refine Xd (vs := [(0, Vi x), (1, Vl m aj aB), (2, Vl h D B)]) (.agg #[Vi x, Vl m aj aB, Vl h D B]) R R R (fun _ _ => by kernel_rfl) ?_
           obtain ⟨az, ax, av, o⟩ := Sa [Vi x, Vl m aj aB, Vl h D B] tagg26 ap R R R
           refine Ys az _ _ R ax (I1 ?_)
           have g := Stp.ev' (ls := [Bk h, [U], Bk m, [e], [a], d]) o (Mf 1 R)
           have i := o.box i (b.apart 4 1 R R R _ mem1)
           have w := w.step g o (b.apart 2 1 R R R)
           have p := p.step g o (b.apart 0 1 R R R)
           have b := b.ev o
           have f := f.then o (fun ab ac => .inr (j.at 1 R ab ac))
           have ap := av
           refine Xe R (t_stop ?_)
           have am := b.pk [4, 2, 0, 1, 5] [[a], Bk m, Bk h, [U], d] R
           have L := Pk (ls := [Bk h, [U], Bk m, [e], [a], d]) [4, 2, 0, 1, 5] [[a], Bk m, Bk h, [U], d] R
           have w := w.sub L
           have p := p.sub L
           have b := am
           have j := j.pk [4, 2, 0, 1] [[a], Bk m, Bk h, [U]] R
           exact Kt ⟨(aj, D, U, m, aB, h, B), ⟨R, R, T0⟩, l, f, b, j, i, w, p, ap⟩
         exact t_none
       refine t_alt _ R ?_ ?_
       · refine Xa (z := .agg #[Vi 0, Z0, Z0]) R R (by kernel_rfl) (fun O aZ a5 au af bJ => ?_)
         replace au : aZ.heap[O]? = some (.cells #[Vi 0, Z0, Z0] 26 (0, 0)) := au
         refine ⟨.inr af, ?_⟩
         have g := Stp.box (ls := [[e], [a], d]) af a5
         have i := af.box i nn
         have an := an.step g
         have aD := aD.step g
         have b := b.box af a5 au
         have j := j.box f.size a5
         have f := f.ext af
         obtain ⟨aA, I, l⟩ := Bs l
         have G := slices_Concat_int_int__w (Ad u 0) 2 ([N, s] : List (List Int)) _ aZ (fl [[O], [e], [a], d]) (MS.fold (P := []) b) (an.sub fl1) I
         refine Xc 18 #[] #[] _ _ R R R R G ?_
         rintro aq ay ⟨k, ar, rfl, q, bh, aI, C⟩
         refine ⟨.inr q, ?_⟩
         have g := Stp.call0 [[O], [e], [a], d] [Bk k] [Bk k, [O], [e], [a], d] q aI R
         have i := q.box i nn
         have aD := aD.step g
         have au := q.box au nn
         have b := MS.call0 [Bk k] [Bk k, [O], [e], [a], d] b q bh aI R
         have Q := FR.call0 [Bk k, [O], [e], [a]] f.size aI j R
         have f := f.ext q
         have j := Q
         have C := OwnS.plain (M' := fl [Bk k, [O], [e], [a], d]) (Pi _) C
         obtain ⟨D, I, l⟩ := Bs l
         have G := slices_Concat_int_int__w (Ad t 0) 2 ([v, r] : List (List Int)) _ ay (fl [Bk k, [O], [e], [a], d]) (MS.fold (P := []) b) (aD.sub fl1) I
         refine Xc 18 #[] #[] _ _ R R R R G ?_
         rintro aq a0 ⟨h, B, rfl, n, aJ, aa, p⟩
         refine ⟨.inr n, ?_⟩
         have g := Stp.call0 [Bk k, [O], [e], [a], d] [Bk h] [Bk h, Bk k, [O], [e], [a], d] n aa R
         have i := n.box i nn
         have au := n.box au nn
         have C := C.step g n nn2
         have b := MS.call0 [Bk h] [Bk h, Bk k, [O], [e], [a], d] b n aJ aa R
         have Q := FR.call0 [Bk h, Bk k, [O], [e], [a]] f.size aa j R
         have f := f.ext n
         have j := Q
         have p := OwnS.plain (M' := fl [Bk h, Bk k, [O], [e], [a], d]) (Pi _) p
         refine Xd (vs := [(0, Vi x), (1, Vl k aA ar), (2, Vl h D B)]) (.agg #[Vi x, Vl k aA ar, Vl h D B]) R R R (fun _ _ => by kernel_rfl) ?_
         obtain ⟨az, ax, av, o⟩ := Sa [Vi x, Vl k aA ar, Vl h D B] tagg26 au R R R
         refine Ys az _ _ R ax (I1 ?_)
         have g := Stp.ev' (ls := [Bk h, Bk k, [O], [e], [a], d]) o (Mf 2 R)
         have i := o.box i (b.apart 4 2 R R R _ mem1)
         have C := C.step g o (b.apart 1 2 R R R)
         have p := p.step g o (b.apart 0 2 R R R)
         have b := b.ev o
         have f := f.then o (fun ab ac => .inr (j.at 2 R ab ac))
         have au := av
         refine Xe R (t_stop ?_)
         have am := b.pk [4, 1, 0, 2, 5] [[a], Bk k, Bk h, [O], d] R
         have L := Pk (ls := [Bk h, Bk k, [O], [e], [a], d]) [4, 1, 0, 2, 5] [[a], Bk k, Bk h, [O], d] R
         have C := C.sub L
         have p := p.sub L
         have b := am
         have j := j.pk [4, 1, 0, 2] [[a], Bk k, Bk h, [O]] R
         exact Kt ⟨(aA, D, O, k, ar, h, B), ⟨R, R, T0⟩, l, f, b, j, i, C, p, au⟩
       exact t_none
     refine t_alt _ R ?_ ?_
     · refine Xa (z := .agg #[Vi 0, Z0, Z0]) R R (by kernel_rfl) (fun t aY a4 ae ad bI => ?_)
       replace ae : aY.heap[t]? = some (.cells #[Vi 0, Z0, Z0] 26 (0, 0)) := ae
       refine ⟨.inr ad, ?_⟩
       have g := Stp.box (ls := [[e], [a], d]) ad a4
       have F := F.step g
       have H := H.step g
       have i := ad.box i nn
       have an := an.step g
       have b := b.box ad a4 ae
       have j := j.box f.size a4
       have f := f.ext ad
       refine Xe R (t_alt _ R ?_ ?_)
       · obtain ⟨aj, I, l⟩ := Bs l
         have G := slices_Concat_int_int__w (Ad u 0) 2 ([N, s] : List (List Int)) _ aY (fl [[t], [e], [a], d]) (MS.fold (P := []) b) (an.sub fl1) I
         refine Xc 18 #[] #[] _ _ R R R R G ?_
         rintro aq bk ⟨m, aB, rfl, Z, bt, a2, w⟩
         refine ⟨.inr Z, ?_⟩
         have g := Stp.call0 [[t], [e], [a], d] [Bk m] [Bk m, [t], [e], [a], d] Z a2 R
         have F := F.step g
         have H := H.step g
         have i := Z.box i nn
         have ae := Z.box ae nn
         have b := MS.call0 [Bk m] [Bk m, [t], [e], [a], d] b Z bt a2 R
         have Q := FR.call0 [Bk m, [t], [e], [a]] f.size a2 j R
         have f := f.ext Z
         have j := Q
         have w := OwnS.plain (M' := fl [Bk m, [t], [e], [a], d]) (Pi _) w
         refine Xb (vs := [(0, Vl J v K), (1, Vl y r A)]) #[Vl J v K, Vl y r A] 22 R R R (by kernel_rfl) (fun U ay aX ap q bK => ?_)
         refine ⟨.inr q, ?_⟩
         have aC := b
         have g := Stp.ext (ls := [Bk m, [t], [e], [a], d]) q
         have F := F.step g
         have H := H.step g
         have i := q.box i nn
         have ae := q.box ae nn
         have w := w.step g q nn2
         have b := b.ev q
         have f := f.ext q
         have bG : SlR (eSl eI) ay (fl [Bk m, [t], [e], [a], d]) (Ad U 0) 2 ([v, r] : List (List Int)) := ro_of_box aC aX ap R R (cells_at (cs := [Vl J v K, Vl y r A]) (CellsOf.cons (c := [Vl J v K]) ⟨J, K, R, H⟩ (CellsOf.cons (c := [Vl y r A]) ⟨y, A, R, F⟩ CellsOf.nil)))
         obtain ⟨D, I, l⟩ := Bs l
         have G := slices_Concat_int_int__w (Ad U 0) 2 ([v, r] : List (List Int)) _ ay (fl [Bk m, [t], [e], [a], d]) (MS.fold (P := []) b) (bG.sub fl1) I
         refine Xc 18 #[] #[] _ _ R R R R G ?_
         rintro aq a0 ⟨h, B, rfl, n, aJ, aa, p⟩
         refine ⟨.inr n, ?_⟩
         have g := Stp.call0 [Bk m, [t], [e], [a], d] [Bk h] [Bk h, Bk m, [t], [e], [a], d] n aa R
         have i := n.box i nn
         have ae := n.box ae nn
         have w := w.step g n nn2
         have b := MS.call0 [Bk h] [Bk h, Bk m, [t], [e], [a], d] b n aJ aa R
         have Q := FR.call0 [Bk h, Bk m, [t], [e], [a]] f.size aa j R
         have f := f.ext n
         have j := Q
         have p := OwnS.plain (M' := fl [Bk h, Bk m, [t], [e], [a], d]) (Pi _) p
         refine Xd (vs := [(0, Vi x), (1, Vl m aj aB), (2, Vl h D B)]) (.agg #[Vi x, Vl m aj aB, Vl h D B]) R R R (fun _ _ => by kernel_rfl) ?_
         obtain ⟨az, ax, av, o⟩ := Sa [Vi x, Vl m aj aB, Vl h D B] tagg26 ae R R R
         refine Ys az _ _ R ax (I1 ?_)
         have g := Stp.ev' (ls := [Bk h, Bk m, [t], [e], [a], d]) o (Mf 2 R)
         have i := o.box i (b.apart 4 2 R R R _ mem1)
         have w := w.step g o (b.apart 1 2 R R R)
         have p := p.step g o (b.apart 0 2 R R R)
         have b := b.ev o
         have f := f.then o (fun ab ac => .inr (j.at 2 R ab ac))
         have ae := av
         refine Xe R (t_stop ?_)
         have am := b.pk [4, 1, 0, 2, 5] [[a], Bk m, Bk h, [t], d] R
         have L := Pk (ls := [Bk h, Bk m, [t], [e], [a], d]) [4, 1, 0, 2, 5] [[a], Bk m, Bk h, [t], d] R
         have w := w.sub L
         have p := p.sub L
         have b := am
         have j := j.pk [4, 1, 0, 2] [[a], Bk m, Bk h, [t]] R
         exact Kt ⟨(aj, D, t, m, aB, h, B), ⟨R, R, T0⟩, l, f, b, j, i, w, p, ae⟩
       refine t_alt _ R ?_ ?_
       · refine Xb (vs := [(0, Vl J v K), (1, Vl y r A)]) #[Vl J v K, Vl y r A] 22 R R R (by kernel_rfl) (fun O aZ a5 au af bJ => ?_)
         refine ⟨.inr af, ?_⟩
         have aC := b
         have g := Stp.ext (ls := [[t], [e], [a], d]) af
         have F := F.step g
         have H := H.step g
         have i := af.box i nn
         have an := an.step g
         have ae := af.box ae nn
         have b := b.ev af
         have f := f.ext af
         have bj : SlR (eSl eI) aZ (fl [[t], [e], [a], d]) (Ad O 0) 2 ([v, r] : List (List Int)) := ro_of_box aC a5 au R R (cells_at (cs := [Vl J v K, Vl y r A]) (CellsOf.cons (c := [Vl J v K]) ⟨J, K, R, H⟩ (CellsOf.cons (c := [Vl y r A]) ⟨y, A, R, F⟩ CellsOf.nil)))
         obtain ⟨aA, I, l⟩ := Bs l
         have G := slices_Concat_int_int__w (Ad u 0) 2 ([N, s] : List (List Int)) _ aZ (fl [[t], [e], [a], d]) (MS.fold (P := []) b) (an.sub fl1) I
         refine Xc 18 #[] #[] _ _ R R R R G ?_
         rintro aq ay ⟨k, ar, rfl, q, bh, aI, C⟩
         refine ⟨.inr q, ?_⟩
         have g := Stp.call0 [[t], [e], [a], d] [Bk k] [Bk k, [t], [e], [a], d] q aI R
         have i := q.box i nn
         have ae := q.box ae nn
         have bj := bj.step g
         have b := MS.call0 [Bk k] [Bk k, [t], [e], [a], d] b q bh aI R
         have Q := FR.call0 [Bk k, [t], [e], [a]] f.size aI j R
         have f := f.ext q
         have j := Q
         have C := OwnS.plain (M' := fl [Bk k, [t], [e], [a], d]) (Pi _) C
         obtain ⟨D, I, l⟩ := Bs l
         have G := slices_Concat_int_int__w (Ad O 0) 2 ([v, r] : List (List Int)) _ ay (fl [Bk k, [t], [e], [a], d]) (MS.fold (P := []) b) (bj.sub fl1) I
         refine Xc 18 #[] #[] _ _ R R R R G ?_
         rintro aq a0 ⟨h, B, rfl, n, aJ, aa, p⟩
         refine ⟨.inr n, ?_⟩
         have g := Stp.call0 [Bk k, [t], [e], [a], d] [Bk h] [Bk h, Bk k, [t], [e], [a], d] n aa R
         have i := n.box i nn
         have ae := n.box ae nn
         have C := C.step g n nn2
         have b := MS.call0 [Bk h] [Bk h, Bk k, [t], [e], [a], d] b n aJ aa R
         have Q := FR.call0 [Bk h, Bk k, [t], [e], [a]] f.size aa j R
         have f := f.ext n
         have j := Q
         have p := OwnS.plain (M' := fl [Bk h, Bk k, [t], [e], [a], d]) (Pi _) p
         refine Xd (vs := [(0, Vi x), (1, Vl k aA ar), (2, Vl h D B)]) (.agg #[Vi x, Vl k aA ar, Vl h D B]) R R R (fun _ _ => by kernel_rfl) ?_
         obtain ⟨az, ax, av, o⟩ := Sa [Vi x, Vl k aA ar, Vl h D B] tagg26 ae R R R
         refine Ys az _ _ R ax (I1 ?_)
         have g := Stp.ev' (ls := [Bk h, Bk k, [t], [e], [a], d]) o (Mf 2 R)
         have i := o.box i (b.apart 4 2 R R R _ mem1)
         have C := C.step g o (b.apart 1 2 R R R)
         have p := p.step g o (b.apart 0 2 R R R)
         have b := b.ev o
         have f := f.then o (fun ab ac => .inr (j.at 2 R ab ac))
         have ae := av
         refine Xe R (t_stop ?_)
         have am := b.pk [4, 1, 0, 2, 5] [[a], Bk k, Bk h, [t], d] R
         have L := Pk (ls := [Bk h, Bk k, [t], [e], [a], d]) [4, 1, 0, 2, 5] [[a], Bk k, Bk h, [t], d] R
         have C := C.sub L
         have p := p.sub L
         have b := am
         have j := j.pk [4, 1, 0, 2] [[a], Bk k, Bk h, [t]] R
         exact Kt ⟨(aA, D, t, k, ar, h, B), ⟨R, R, T0⟩, l, f, b, j, i, C, p, ae⟩
       exact t_none
     exact t_none
   refine t_alt _ R ?_ ?_
   · refine Xb (vs := [(0, Vl J v K), (1, Vl y r A)]) #[Vl J v K, Vl y r A] 22 R R R (by kernel_rfl) (fun u bz bu ag aU cd => ?_)
     refine ⟨.inr aU, ?_⟩
     have aC := b
     have g := Stp.ext (ls := [[e], [a], d]) aU
     have ai := ai.step g
     have F := F.step g
     have ah := ah.step g
     have H := H.step g
     have i := aU.box i nn
     have b := b.ev aU
     have f := f.ext aU
     have an : SlR (eSl eI) bz (fl [[e], [a], d]) (Ad u 0) 2 ([v, r] : List (List Int)) := ro_of_box aC bu ag R R (cells_at (cs := [Vl J v K, Vl y r A]) (CellsOf.cons (c := [Vl J v K]) ⟨J, K, R, H⟩ (CellsOf.cons (c := [Vl y r A]) ⟨y, A, R, F⟩ CellsOf.nil)))
     refine Xe R (t_alt _ R ?_ ?_)
     · refine Xb (vs := [(0, Vl ak N al), (1, Vl X s Y)]) #[Vl ak N al, Vl X s Y] 22 R R R (by kernel_rfl) (fun t aY a4 ae ad bI => ?_)
       refine ⟨.inr ad, ?_⟩
       have aC := b
       have g := Stp.ext (ls := [[e], [a], d]) ad
       have ai := ai.step g
       have ah := ah.step g
       have i := ad.box i nn
       have an := an.step g
       have b := b.ev ad
       have f := f.ext ad
       have aD : SlR (eSl eI) aY (fl [[e], [a], d]) (Ad t 0) 2 ([N, s] : List (List Int)) := ro_of_box aC a4 ae R R (cells_at (cs := [Vl ak N al, Vl X s Y]) (CellsOf.cons (c := [Vl ak N al]) ⟨ak, al, R, ah⟩ (CellsOf.cons (c := [Vl X s Y]) ⟨X, Y, R, ai⟩ CellsOf.nil)))
       refine Xe R (t_alt _ R ?_ ?_)
       · obtain ⟨aj, I, l⟩ := Bs l
         have G := slices_Concat_int_int__w (Ad t 0) 2 ([N, s] : List (List Int)) _ aY (fl [[e], [a], d]) (MS.fold (P := []) b) (aD.sub fl1) I
         refine Xc 18 #[] #[] _ _ R R R R G ?_
         rintro aq bk ⟨m, aB, rfl, Z, bt, a2, w⟩
         refine ⟨.inr Z, ?_⟩
         have g := Stp.call0 [[e], [a], d] [Bk m] [Bk m, [e], [a], d] Z a2 R
         have i := Z.box i nn
         have an := an.step g
         have b := MS.call0 [Bk m] [Bk m, [e], [a], d] b Z bt a2 R
         have Q := FR.call0 [Bk m, [e], [a]] f.size a2 j R
         have f := f.ext Z
         have j := Q
         have w := OwnS.plain (M' := fl [Bk m, [e], [a], d]) (Pi _) w
         refine Xe R (t_alt _ R ?_ ?_)
         · obtain ⟨a8, I, l⟩ := Bs l
           have G := slices_Concat_int_int__w (Ad u 0) 2 ([v, r] : List (List Int)) _ bk (fl [Bk m, [e], [a], d]) (MS.fold (P := []) b) (an.sub fl1) I
           refine Xc 18 #[] #[] _ _ R R R R G ?_
           rintro aq cg ⟨S, a7, rfl, aL, bE, bg, aw⟩
           refine ⟨.inr aL, ?_⟩
           have g := Stp.call0 [Bk m, [e], [a], d] [Bk S] [Bk S, Bk m, [e], [a], d] aL bg R
           have i := aL.box i nn
           have w := w.step g aL nn2
           have b := MS.call0 [Bk S] [Bk S, Bk m, [e], [a], d] b aL bE bg R
           have Q := FR.call0 [Bk S, Bk m, [e], [a]] f.size bg j R
           have f := f.ext aL
           have j := Q
           have aw := OwnS.plain (M' := fl [Bk S, Bk m, [e], [a], d]) (Pi _) aw
           refine Xd (vs := [(0, Vi x), (1, Vl m aj aB), (2, Vl S a8 a7)]) (.agg #[Vi x, Vl m aj aB, Vl S a8 a7]) R R R (fun _ _ => by kernel_rfl) ?_
           refine Xa (z := .agg #[Vi 0, Z0, Z0]) R R (by kernel_rfl) (fun aH a0 bi aK n ce => ?_)
           replace aK : a0.heap[aH]? = some (.cells #[Vi 0, Z0, Z0] 26 (0, 0)) := aK
           refine ⟨.inr n, ?_⟩
           have g := Stp.box (ls := [Bk S, Bk m, [e], [a], d]) n bi
           have i := n.box i nn
           have w := w.step g n nn2
           have aw := aw.step g n nn2
           have b := b.box n bi aK
           have j := j.box f.size bi
           have f := f.ext n
           obtain ⟨az, ax, av, o⟩ := Sa [Vi x, Vl m aj aB, Vl S a8 a7] tagg26 aK R R R
           refine Ys az _ _ R ax (I1 ?_)
           have g := Stp.ev' (ls := [[aH], Bk S, Bk m, [e], [a], d]) o (Mf 0 R)
           have i := o.box i (b.apart 4 0 R R R _ mem1)
           have w := w.step g o (b.apart 2 0 R R R)
           have aw := aw.step g o (b.apart 1 0 R R R)
           have b := b.ev o
           have f := f.then o (fun ab ac => .inr (j.at 0 R ab ac))
           have aK := av
           refine Xe R (t_stop ?_)
           have am := b.pk [4, 2, 1, 0, 5] [[a], Bk m, Bk S, [aH], d] R
           have L := Pk (ls := [[aH], Bk S, Bk m, [e], [a], d]) [4, 2, 1, 0, 5] [[a], Bk m, Bk S, [aH], d] R
           have w := w.sub L
           have aw := aw.sub L
           have b := am
           have j := j.pk [4, 2, 1, 0] [[a], Bk m, Bk S, [aH]] R
           exact Kt ⟨(aj, a8, aH, m, aB, S, a7), ⟨R, R, T0⟩, l, f, b, j, i, w, aw, aK⟩
         refine t_alt _ R ?_ ?_
         · refine Xa (z := .agg #[Vi 0, Z0, Z0]) R R (by kernel_rfl) (fun U ay aX ap q bK => ?_)
           replace ap : ay.heap[U]? = some (.cells #[Vi 0, Z0, Z0] 26 (0, 0)) := ap
           refine ⟨.inr q, ?_⟩
           have g := Stp.box (ls := [Bk m, [e], [a], d]) q aX
           have i := q.box i nn
           have an := an.step g
           have w := w.step g q nn2
           have b := b.box q aX ap
           have j := j.box f.size aX
           have f := f.ext q
           obtain ⟨D, I, l⟩ := Bs l
           have G := slices_Concat_int_int__w (Ad u 0) 2 ([v, r] : List (List Int)) _ ay (fl [[U], Bk m, [e], [a], d]) (MS.fold (P := []) b) (an.sub fl1) I
           refine Xc 18 #[] #[] _ _ R R R R G ?_
           rintro aq a0 ⟨h, B, rfl, n, aJ, aa, p⟩
           refine ⟨.inr n, ?_⟩
           have g := Stp.call0 [[U], Bk m, [e], [a], d] [Bk h] [Bk h, [U], Bk m, [e], [a], d] n aa R
           have i := n.box i nn
           have w := w.step g n nn2
           have ap := n.box ap nn
           have b := MS.call0 [Bk h] [Bk h, [U], Bk m, [e], [a], d] b n aJ aa R
           have Q := FR.call0 [Bk h, [U], Bk m, [e], [a]] f.size aa j R
           have f := f.ext n
           have j := Q
           have p := OwnS.plain (M' := fl [Bk h, [U], Bk m, [e], [a], d]) (Pi _) p
           refine Xd (vs := [(0, Vi x), (1, Vl m aj aB), (2, Vl h D B)]) (.agg #[Vi x, Vl m aj aB, Vl h D B]) R R R (fun _ _ => by kernel_rfl) ?_
           obtain ⟨az, ax, av, o⟩ := Sa [Vi x, Vl m aj aB, Vl h D B] tagg26 ap R R R
           refine Ys az _ _ R ax (I1 ?_)
           have g := Stp.ev' (ls := [Bk h, [U], Bk m, [e], [a], d]) o (Mf 1 R)
           have i := o.box i (b.apart 4 1 R R R _ mem1)
           have w := w.step g o (b.apart 2 1 R R R)
           have p := p.step g o (b.apart 0 1 R R R)
           have b := b.ev o
           have f := f.then o (fun ab ac => .inr (j.at 1 R ab ac))
           have ap := av
           refine Xe R (t_stop ?_)
           have am := b.pk [4, 2, 0, 1, 5] [[a], Bk m, Bk h, [U], d] R
           have L := Pk (ls := [Bk h, [U], Bk m, [e], [a], d]) [4, 2, 0, 1, 5] [[a], Bk m, Bk h, [U], d] R
           have w := w.sub L
           have p := p.sub L
           have b := am
           have j := j.pk [4, 2, 0, 1] [[a], Bk m, Bk h, [U]] R
           exact Kt ⟨(aj, D, U, m, aB, h, B), ⟨R, R, T0⟩, l, f, b, j, i, w, p, ap⟩
         exact t_none
       refine t_alt _ R ?_ ?_
       · refine Xa (z := .agg #[Vi 0, Z0, Z0]) R R (by kernel_rfl) (fun O aZ a5 au af bJ => ?_)
         replace au : aZ.heap[O]? = some (.cells #[Vi 0, Z0, Z0] 26 (0, 0)) := au
         refine ⟨.inr af, ?_⟩
         have g := Stp.box (ls := [[e], [a], d]) af a5
         have i := af.box i nn
         have an := an.step g
         have aD := aD.step g
         have b := b.box af a5 au
         have j := j.box f.size a5
         have f := f.ext af
         obtain ⟨aA, I, l⟩ := Bs l
         have G := slices_Concat_int_int__w (Ad t 0) 2 ([N, s] : List (List Int)) _ aZ (fl [[O], [e], [a], d]) (MS.fold (P := []) b) (aD.sub fl1) I
         refine Xc 18 #[] #[] _ _ R R R R G ?_
         rintro aq ay ⟨k, ar, rfl, q, bh, aI, C⟩
         refine ⟨.inr q, ?_⟩
         have g := Stp.call0 [[O], [e], [a], d] [Bk k] [Bk k, [O], [e], [a], d] q aI R
         have i := q.box i nn
         have an := an.step g
         have au := q.box au nn
         have b := MS.call0 [Bk k] [Bk k, [O], [e], [a], d] b q bh aI R
         have Q := FR.call0 [Bk k, [O], [e], [a]] f.size aI j R
         have f := f.ext q
         have j := Q
         have C := OwnS.plain (M' := fl [Bk k, [O], [e], [a], d]) (Pi _) C
         obtain ⟨D, I, l⟩ := Bs l
         have G := slices_Concat_int_int__w (Ad u 0) 2 ([v, r] : List (List Int)) _ ay (fl [Bk k, [O], [e], [a], d]) (MS.fold (P := []) b) (an.sub fl1) I
         refine Xc 18 #[] #[] _ _ R R R R G ?_
         rintro aq a0 ⟨h, B, rfl, n, aJ, aa, p⟩
         refine ⟨.inr n, ?_⟩
         have g := Stp.call0 [Bk k, [O], [e], [a], d] [Bk h] [Bk h, Bk k, [O], [e], [a], d] n aa R
         have i := n.box i nn
         have au := n.box au nn
         have C := C.step g n nn2
         have b := MS.call0 [Bk h] [Bk h, Bk k, [O], [e], [a], d] b n aJ aa R
         have Q := FR.call0 [Bk h, Bk k, [O], [e], [a]] f.size aa j R
         have f := f.ext n
         have j := Q
         have p := OwnS.plain (M' := fl [Bk h, Bk k, [O], [e], [a], d]) (Pi _) p
         refine Xd (vs := [(0, Vi x), (1, Vl k aA ar), (2, Vl h D B)]) (.agg #[Vi x, Vl k aA ar, Vl h D B]) R R R (fun _ _ => by kernel_rfl) ?_
         obtain ⟨az, ax, av, o⟩ := Sa [Vi x, Vl k aA ar, Vl h D B] tagg26 au R R R
         refine Ys az _ _ R ax (I1 ?_)
         have g := Stp.ev' (ls := [Bk h, Bk k, [O], [e], [a], d]) o (Mf 2 R)
         have i := o.box i (b.apart 4 2 R R R _ mem1)
         have C := C.step g o (b.apart 1 2 R R R)
         have p := p.step g o (b.apart 0 2 R R R)
         have b := b.ev o
         have f := f.then o (fun ab ac => .inr (j.at 2 R ab ac))
         have au := av
         refine Xe R (t_stop ?_)
         have am := b.pk [4, 1, 0, 2, 5] [[a], Bk k, Bk h, [O], d] R
         have L := Pk (ls := [Bk h, Bk k, [O], [e], [a], d]) [4, 1, 0, 2, 5] [[a], Bk k, Bk h, [O], d] R
         have C := C.sub L
         have p := p.sub L
         have b := am
         have j := j.pk [4, 1, 0, 2] [[a], Bk k, Bk h, [O]] R
         exact Kt ⟨(aA, D, O, k, ar, h, B), ⟨R, R, T0⟩, l, f, b, j, i, C, p, au⟩
       exact t_none
     refine t_alt _ R ?_ ?_
     · refine Xa (z := .agg #[Vi 0, Z0, Z0]) R R (by kernel_rfl) (fun t aY a4 ae ad bI => ?_)
       replace ae : aY.heap[t]? = some (.cells #[Vi 0, Z0, Z0] 26 (0, 0)) := ae
       refine ⟨.inr ad, ?_⟩
       have g := Stp.box (ls := [[e], [a], d]) ad a4
       have ai := ai.step g
       have ah := ah.step g
       have i := ad.box i nn
       have an := an.step g
       have b := b.box ad a4 ae
       have j := j.box f.size a4
       have f := f.ext ad
       refine Xb (vs := [(0, Vl ak N al), (1, Vl X s Y)]) #[Vl ak N al, Vl X s Y] 22 R R R (by kernel_rfl) (fun O aZ a5 au af bJ => ?_)
       refine ⟨.inr af, ?_⟩
       have aC := b
       have g := Stp.ext (ls := [[t], [e], [a], d]) af
       have ai := ai.step g
       have ah := ah.step g
       have i := af.box i nn
       have an := an.step g
       have ae := af.box ae nn
       have b := b.ev af
       have f := f.ext af
       have bj : SlR (eSl eI) aZ (fl [[t], [e], [a], d]) (Ad O 0) 2 ([N, s] : List (List Int)) := ro_of_box aC a5 au R R (cells_at (cs := [Vl ak N al, Vl X s Y]) (CellsOf.cons (c := [Vl ak N al]) ⟨ak, al, R, ah⟩ (CellsOf.cons (c := [Vl X s Y]) ⟨X, Y, R, ai⟩ CellsOf.nil)))
       obtain ⟨aA, I, l⟩ := Bs l
       have G := slices_Concat_int_int__w (Ad O 0) 2 ([N, s] : List (List Int)) _ aZ (fl [[t], [e], [a], d]) (MS.fold (P := []) b) (bj.sub fl1) I
       refine Xc 18 #[] #[] _ _ R R R R G ?_
       rintro aq ay ⟨k, ar, rfl, q, bh, aI, C⟩
       refine ⟨.inr q, ?_⟩
       have g := Stp.call0 [[t], [e], [a], d] [Bk k] [Bk k, [t], [e], [a], d] q aI R
       have i := q.box i nn
       have an := an.step g
       have ae := q.box ae nn
       have b := MS.call0 [Bk k] [Bk k, [t], [e], [a], d] b q bh aI R
       have Q := FR.call0 [Bk k, [t], [e], [a]] f.size aI j R
       have f := f.ext q
       have j := Q
       have C := OwnS.plain (M' := fl [Bk k, [t], [e], [a], d]) (Pi _) C
       obtain ⟨D, I, l⟩ := Bs l
       have G := slices_Concat_int_int__w (Ad u 0) 2 ([v, r] : List (List Int)) _ ay (fl [Bk k, [t], [e], [a], d]) (MS.fold (P := []) b) (an.sub fl1) I
       refine Xc 18 #[] #[] _ _ R R R R G ?_
       rintro aq a0 ⟨h, B, rfl, n, aJ, aa, p⟩
       refine ⟨.inr n, ?_⟩
       have g := Stp.call0 [Bk k, [t], [e], [a], d] [Bk h] [Bk h, Bk k, [t], [e], [a], d] n aa R
       have i := n.box i nn
       have ae := n.box ae nn
       have C := C.step g n nn2
       have b := MS.call0 [Bk h] [Bk h, Bk k, [t], [e], [a], d] b n aJ aa R
       have Q := FR.call0 [Bk h, Bk k, [t], [e], [a]] f.size aa j R
       have f := f.ext n
       have j := Q
       have p := OwnS.plain (M' := fl [Bk h, Bk k, [t], [e], [a], d]) (Pi _) p
       refine Xd (vs := [(0, Vi x), (1, Vl k aA ar), (2, Vl h D B)]) (.agg #[Vi x, Vl k aA ar, Vl h D B]) R R R (fun _ _ => by kernel_rfl) ?_
       obtain ⟨az, ax, av, o⟩ := Sa [Vi x, Vl k aA ar, Vl h D B] tagg26 ae R R R
       refine Ys az _ _ R ax (I1 ?_)
       have g := Stp.ev' (ls := [Bk h, Bk k, [t], [e], [a], d]) o (Mf 2 R)
       have i := o.box i (b.apart 4 2 R R R _ mem1)
       have C := C.step g o (b.apart 1 2 R R R)
       have p := p.step g o (b.apart 0 2 R R R)
       have b := b.ev o
       have f := f.then o (fun ab ac => .inr (j.at 2 R ab ac))
       have ae := av
       refine Xe R (t_stop ?_)
       have am := b.pk [4, 1, 0, 2, 5] [[a], Bk k, Bk h, [t], d] R
       have L := Pk (ls := [Bk h, Bk k, [t], [e], [a], d]) [4, 1, 0, 2, 5] [[a], Bk k, Bk h, [t], d] R
       have C := C.sub L
       have p := p.sub L
       have b := am
       have j := j.pk [4, 1, 0, 2] [[a], Bk k, Bk h, [t]] R
       exact Kt ⟨(aA, D, t, k, ar, h, B), ⟨R, R, T0⟩, l, f, b, j, i, C, p, ae⟩
     exact t_none
   refine t_alt _ R ?_ ?_
   · refine Xa (z := .agg #[Vi 0, Z0, Z0]) R R (by kernel_rfl) (fun u bz bu ag aU cd => ?_)
     replace ag : bz.heap[u]? = some (.cells #[Vi 0, Z0, Z0] 26 (0, 0)) := ag
     refine ⟨.inr aU, ?_⟩
     have g := Stp.box (ls := [[e], [a], d]) aU bu
     have ai := ai.step g
     have F := F.step g
     have ah := ah.step g
     have H := H.step g
     have i := aU.box i nn
     have b := b.box aU bu ag
     have j := j.box f.size bu
     have f := f.ext aU
     refine Xe R (t_alt _ R ?_ ?_)
     · refine Xb (vs := [(0, Vl ak N al), (1, Vl X s Y)]) #[Vl ak N al, Vl X s Y] 22 R R R (by kernel_rfl) (fun t aY a4 ae ad bI => ?_)
       refine ⟨.inr ad, ?_⟩
       have aC := b
       have g := Stp.ext (ls := [[u], [e], [a], d]) ad
       have ai := ai.step g
       have F := F.step g
       have ah := ah.step g
       have H := H.step g
       have i := ad.box i nn
       have ag := ad.box ag nn
       have b := b.ev ad
       have f := f.ext ad
       have aD : SlR (eSl eI) aY (fl [[u], [e], [a], d]) (Ad t 0) 2 ([N, s] : List (List Int)) := ro_of_box aC a4 ae R R (cells_at (cs := [Vl ak N al, Vl X s Y]) (CellsOf.cons (c := [Vl ak N al]) ⟨ak, al, R, ah⟩ (CellsOf.cons (c := [Vl X s Y]) ⟨X, Y, R, ai⟩ CellsOf.nil)))
       refine Xe R (t_alt _ R ?_ ?_)
       · obtain ⟨aj, I, l⟩ := Bs l
         have G := slices_Concat_int_int__w (Ad t 0) 2 ([N, s] : List (List Int)) _ aY (fl [[u], [e], [a], d]) (MS.fold (P := []) b) (aD.sub fl1) I
         refine Xc 18 #[] #[] _ _ R R R R G ?_
         rintro aq bk ⟨m, aB, rfl, Z, bt, a2, w⟩
         refine ⟨.inr Z, ?_⟩
         have g := Stp.call0 [[u], [e], [a], d] [Bk m] [Bk m, [u], [e], [a], d] Z a2 R
         have F := F.step g
         have H := H.step g
         have i := Z.box i nn
         have ag := Z.box ag nn
         have b := MS.call0 [Bk m] [Bk m, [u], [e], [a], d] b Z bt a2 R
         have Q := FR.call0 [Bk m, [u], [e], [a]] f.size a2 j R
         have f := f.ext Z
         have j := Q
         have w := OwnS.plain (M' := fl [Bk m, [u], [e], [a], d]) (Pi _) w
         refine Xb (vs := [(0, Vl J v K), (1, Vl y r A)]) #[Vl J v K, Vl y r A] 22 R R R (by kernel_rfl) (fun U ay aX ap q bK => ?_)
         refine ⟨.inr q, ?_⟩
         have aC := b
         have g := Stp.ext (ls := [Bk m, [u], [e], [a], d]) q
         have F := F.step g
         have H := H.step g
         have i := q.box i nn
         have ag := q.box ag nn
         have w := w.step g q nn2
         have b := b.ev q
         have f := f.ext q
         have bG : SlR (eSl eI) ay (fl [Bk m, [u], [e], [a], d]) (Ad U 0) 2 ([v, r] : List (List Int)) := ro_of_box aC aX ap R R (cells_at (cs := [Vl J v K, Vl y r A]) (CellsOf.cons (c := [Vl J v K]) ⟨J, K, R, H⟩ (CellsOf.cons (c := [Vl y r A]) ⟨y, A, R, F⟩ CellsOf.nil)))
         obtain ⟨D, I, l⟩ := Bs l
         have G := slices_Concat_int_int__w (Ad U 0) 2 ([v, r] : List (List Int)) _ ay (fl [Bk m, [u], [e], [a], d]) (MS.fold (P := []) b) (bG.sub fl1) I
         refine Xc 18 #[] #[] _ _ R R R R G ?_
         rintro aq a0 ⟨h, B, rfl, n, aJ, aa, p⟩
         refine ⟨.inr n, ?_⟩
         have g := Stp.call0 [Bk m, [u], [e], [a], d] [Bk h] [Bk h, Bk m, [u], [e], [a], d] n aa R
         have i := n.box i nn
         have ag := n.box ag nn
         have w := w.step g n nn2
         have b := MS.call0 [Bk h] [Bk h, Bk m, [u], [e], [a], d] b n aJ aa R
         have Q := FR.call0 [Bk h, Bk m, [u], [e], [a]] f.size aa j R
         have f := f.ext n
         have j := Q
         have p := OwnS.plain (M' := fl [Bk h, Bk m, [u], [e], [a], d]) (Pi _) p
         refine Xd (vs := [(0, Vi x), (1, Vl m aj aB), (2, Vl h D B)]) (.agg #[Vi x, Vl m aj aB, Vl h D B]) R R R (fun _ _ => by kernel_rfl) ?_
         obtain ⟨az, ax, av, o⟩ := Sa [Vi x, Vl m aj aB, Vl h D B] tagg26 ag R R R
         refine Ys az _ _ R ax (I1 ?_)
         have g := Stp.ev' (ls := [Bk h, Bk m, [u], [e], [a], d]) o (Mf 2 R)
         have i := o.box i (b.apart 4 2 R R R _ mem1)
         have w := w.step g o (b.apart 1 2 R R R)
         have p := p.step g o (b.apart 0 2 R R R)
         have b := b.ev o
         have f := f.then o (fun ab ac => .inr (j.at 2 R ab ac))
         have ag := av
         refine Xe R (t_stop ?_)
         have am := b.pk [4, 1, 0, 2, 5] [[a], Bk m, Bk h, [u], d] R
         have L := Pk (ls := [Bk h, Bk m, [u], [e], [a], d]) [4, 1, 0, 2, 5] [[a], Bk m, Bk h, [u], d] R
         have w := w.sub L
         have p := p.sub L
         have b := am
         have j := j.pk [4, 1, 0, 2] [[a], Bk m, Bk h, [u]] R
         exact Kt ⟨(aj, D, u, m, aB, h, B), ⟨R, R, T0⟩, l, f, b, j, i, w, p, ag⟩
       refine t_alt _ R ?_ ?_
       · refine Xb (vs := [(0, Vl J v K), (1, Vl y r A)]) #[Vl J v K, Vl y r A] 22 R R R (by kernel_rfl) (fun O aZ a5 au af bJ => ?_)
         refine ⟨.inr af, ?_⟩
         have aC := b
         have g := Stp.ext (ls := [[u], [e], [a], d]) af
         have F := F.step g
         have H := H.step g
         have i := af.box i nn
         have ag := af.box ag nn
         have aD := aD.step g
         have b := b.ev af
         have f := f.ext af
         have bj : SlR (eSl eI) aZ (fl [[u], [e], [a], d]) (Ad O 0) 2 ([v, r] : List (List Int)) := ro_of_box aC a5 au R R (cells_at (cs := [Vl J v K, Vl y r A]) (CellsOf.cons (c := [Vl J v K]) ⟨J, K, R, H⟩ (CellsOf.cons (c := [Vl y r A]) ⟨y, A, R, F⟩ CellsOf.nil)))
         obtain ⟨aA, I, l⟩ := Bs l
         have G := slices_Concat_int_int__w (Ad t 0) 2 ([N, s] : List (List Int)) _ aZ (fl [[u], [e], [a], d]) (MS.fold (P := []) b) (aD.sub fl1) I
         refine Xc 18 #[] #[] _ _ R R R R G ?_
         rintro aq ay ⟨k, ar, rfl, q, bh, aI, C⟩
         refine ⟨.inr q, ?_⟩
         have g := Stp.call0 [[u], [e], [a], d] [Bk k] [Bk k, [u], [e], [a], d] q aI R
         have i := q.box i nn
         have ag := q.box ag nn
         have bj := bj.step g
         have b := MS.call0 [Bk k] [Bk k, [u], [e], [a], d] b q bh aI R
         have Q := FR.call0 [Bk k, [u], [e], [a]] f.size aI j R
         have f := f.ext q
         have j := Q
         have C := OwnS.plain (M' := fl [Bk k, [u], [e], [a], d]) (Pi _) C
         obtain ⟨D, I, l⟩ := Bs l
         have G := slices_Concat_int_int__w (Ad O 0) 2 ([v, r] : List (List Int)) _ ay (fl [Bk k, [u], [e], [a], d]) (MS.fold (P := []) b) (bj.sub fl1) I
         refine Xc 18 #[] #[] _ _ R R R R G ?_
         rintro aq a0 ⟨h, B, rfl, n, aJ, aa, p⟩
         refine ⟨.inr n, ?_⟩
         have g := Stp.call0 [Bk k, [u], [e], [a], d] [Bk h] [Bk h, Bk k, [u], [e], [a], d] n aa R
         have i := n.box i nn
         have ag := n.box ag nn
         have C := C.step g n nn2
         have b := MS.call0 [Bk h] [Bk h, Bk k, [u], [e], [a], d] b n aJ aa R
         have Q := FR.call0 [Bk h, Bk k, [u], [e], [a]] f.size aa j R
         have f := f.ext n
         have j := Q
         have p := OwnS.plain (M' := fl [Bk h, Bk k, [u], [e], [a], d]) (Pi _) p
         refine Xd (vs := [(0, Vi x), (1, Vl k aA ar), (2, Vl h D B)]) (.agg #[Vi x, Vl k aA ar, Vl h D B]) R R R (fun _ _ => by kernel_rfl) ?_
         obtain ⟨az, ax, av, o⟩ := Sa [Vi x, Vl k aA ar, Vl h D B] tagg26 ag R R R
         refine Ys az _ _ R ax (I1 ?_)
         have g := Stp.ev' (ls := [Bk h, Bk k, [u], [e], [a], d]) o (Mf 2 R)
         have i := o.box i (b.apart 4 2 R R R _ mem1)
         have C := C.step g o (b.apart 1 2 R R R)
         have p := p.step g o (b.apart 0 2 R R R)
         have b := b.ev o
         have f := f.then o (fun ab ac => .inr (j.at 2 R ab ac))
         have ag := av
         refine Xe R (t_stop ?_)
         have am := b.pk [4, 1, 0, 2, 5] [[a], Bk k, Bk h, [u], d] R
         have L := Pk (ls := [Bk h, Bk k, [u], [e], [a], d]) [4, 1, 0, 2, 5] [[a], Bk k, Bk h, [u], d] R
         have C := C.sub L
         have p := p.sub L
         have b := am
         have j := j.pk [4, 1, 0, 2] [[a], Bk k, Bk h, [u]] R
         exact Kt ⟨(aA, D, u, k, ar, h, B), ⟨R, R, T0⟩, l, f, b, j, i, C, p, ag⟩
       exact t_none
     refine t_alt _ R ?_ ?_
     · refine Xb (vs := [(0, Vl J v K), (1, Vl y r A)]) #[Vl J v K, Vl y r A] 22 R R R (by kernel_rfl) (fun t aY a4 ae ad bI => ?_)
       refine ⟨.inr ad, ?_⟩
       have aC := b
       have g := Stp.ext (ls := [[u], [e], [a], d]) ad
       have ai := ai.step g
       have F := F.step g
       have ah := ah.step g
       have H := H.step g
       have i := ad.box i nn
       have ag := ad.box ag nn
       have b := b.ev ad
       have f := f.ext ad
       have aD : SlR (eSl eI) aY (fl [[u], [e], [a], d]) (Ad t 0) 2 ([v, r] : List (List Int)) := ro_of_box aC a4 ae R R (cells_at (cs := [Vl J v K, Vl y r A]) (CellsOf.cons (c := [Vl J v K]) ⟨J, K, R, H⟩ (CellsOf.cons (c := [Vl y r A]) ⟨y, A, R, F⟩ CellsOf.nil)))
       refine Xb (vs := [(0, Vl ak N al), (1, Vl X s Y)]) #[Vl ak N al, Vl X s Y] 22 R R R (by kernel_rfl) (fun O aZ a5 au af bJ => ?_)
       refine ⟨.inr af, ?_⟩
       have aC := b
       have g := Stp.ext (ls := [[u], [e], [a], d]) af
       have ai := ai.step g
       have ah := ah.step g
       have i := af.box i nn
       have ag := af.box ag nn
       have aD := aD.step g
       have b := b.ev af
       have f := f.ext af
       have bj : SlR (eSl eI) aZ (fl [[u], [e], [a], d]) (Ad O 0) 2 ([N, s] : List (List Int)) := ro_of_box aC a5 au R R (cells_at (cs := [Vl ak N al, Vl X s Y]) (CellsOf.cons (c := [Vl ak N al]) ⟨ak, al, R, ah⟩ (CellsOf.cons (c := [Vl X s Y]) ⟨X, Y, R, ai⟩ CellsOf.nil)))
       obtain ⟨aA, I, l⟩ := Bs l
       have G := slices_Concat_int_int__w (Ad O 0) 2 ([N, s] : List (List Int)) _ aZ (fl [[u], [e], [a], d]) (MS.fold (P := []) b) (bj.sub fl1) I
       refine Xc 18 #[] #[] _ _ R R R R G ?_
       rintro aq ay ⟨k, ar, rfl, q, bh, aI, C⟩
       refine ⟨.inr q, ?_⟩
       have g := Stp.call0 [[u], [e], [a], d] [Bk k] [Bk k, [u], [e], [a], d] q aI R
       have i := q.box i nn
       have ag := q.box ag nn
       have aD := aD.step g
       have b := MS.call0 [Bk k] [Bk k, [u], [e], [a], d] b q bh aI R
       have Q := FR.call0 [Bk k, [u], [e], [a]] f.size aI j R
       have f := f.ext q
       have j := Q
       have C := OwnS.plain (M' := fl [Bk k, [u], [e], [a], d]) (Pi _) C
       obtain ⟨D, I, l⟩ := Bs l
       have G := slices_Concat_int_int__w (Ad t 0) 2 ([v, r] : List (List Int)) _ ay (fl [Bk k, [u], [e], [a], d]) (MS.fold (P := []) b) (aD.sub fl1) I
       refine Xc 18 #[] #[] _ _ R R R R G ?_
       rintro aq a0 ⟨h, B, rfl, n, aJ, aa, p⟩
       refine ⟨.inr n, ?_⟩
       have g := Stp.call0 [Bk k, [u], [e], [a], d] [Bk h] [Bk h, Bk k, [u], [e], [a], d] n aa R
       have i := n.box i nn
       have ag := n.box ag nn
       have C := C.step g n nn2
       have b := MS.call0 [Bk h] [Bk h, Bk k, [u], [e], [a], d] b n aJ aa R
       have Q := FR.call0 [Bk h, Bk k, [u], [e], [a]] f.size aa j R
       have f := f.ext n
       have j := Q
       have p := OwnS.plain (M' := fl [Bk h, Bk k, [u], [e], [a], d]) (Pi _) p
       refine Xd (vs := [(0, Vi x), (1, Vl k aA ar), (2, Vl h D B)]) (.agg #[Vi x, Vl k aA ar, Vl h D B]) R R R (fun _ _ => by kernel_rfl) ?_
       obtain ⟨az, ax, av, o⟩ := Sa [Vi x, Vl k aA ar, Vl h D B] tagg26 ag R R R
       refine Ys az _ _ R ax (I1 ?_)
       have g := Stp.ev' (ls := [Bk h, Bk k, [u], [e], [a], d]) o (Mf 2 R)
       have i := o.box i (b.apart 4 2 R R R _ mem1)
       have C := C.step g o (b.apart 1 2 R R R)
       have p := p.step g o (b.apart 0 2 R R R)
       have b := b.ev o
       have f := f.then o (fun ab ac => .inr (j.at 2 R ab ac))
       have ag := av
       refine Xe R (t_stop ?_)
       have am := b.pk [4, 1, 0, 2, 5] [[a], Bk k, Bk h, [u], d] R
       have L := Pk (ls := [Bk h, Bk k, [u], [e], [a], d]) [4, 1, 0, 2, 5] [[a], Bk k, Bk h, [u], d] R
       have C := C.sub L
       have p := p.sub L
       have b := am
       have j := j.pk [4, 1, 0, 2] [[a], Bk k, Bk h, [u]] R
       exact Kt ⟨(aA, D, u, k, ar, h, B), ⟨R, R, T0⟩, l, f, b, j, i, C, p, ag⟩
     exact t_none
   exact t_none
 rintro ⟨bb, bc, aG, aE, a9, aF, ba⟩ bl c0 ⟨l, f, b, j, i, bm, bn, bs⟩
 refine Cq (Cs (Yl _ _ R (Ra 0 [Vi x, Vl aE bb a9, Vl aF bc ba] tagg26 bs nn R) ?_))
 obtain ⟨b4, I, l⟩ := Bs l
 have am := b.pk [0, 3, 4] ([] ++ [[a], [aG], d]) R
 have bH := Fk (ls := [[a], Bk aE, Bk aF, [aG], d]) [0, 3, 4] [[a], [aG], d] R
 have G := bowl_Valid_w x aE a9 bb aF ba bc _ c0 (fl [[a], [aG], d]) (MS.fold (P := []) am) (bm.ro bH (Po b 1 R [0, 3, 4] [[a], [aG], d] R R)) (bn.ro bH (Po b 2 R [0, 3, 4] [[a], [aG], d] R R)) I
 refine Xc 17 #[] #[] _ _ R R R R G ?_
 rintro aq aY ⟨rfl, ad⟩
 refine I1 ?_
 have g := Stp.ext (ls := [[a], Bk aE, Bk aF, [aG], d]) ad
 have i := ad.box i nn
 have bs := ad.box bs nn
 have bm := bm.step g ad nn2
 have bn := bn.step g ad nn2
 have b := b.ev ad
 have f := f.ext ad
 refine Xu 1 [(73, .bool (!b4))] (Xk (Cn [(6, Vp a 0), (11, Vp aG 0), (73, .bool (!b4))] (fun bl => ?_)))
 refine Ci (!b4) R l (fun l => ?_) (fun l => ?_)
 · refine Cs (Xd (vs := []) (.agg #[Vi 0, Z0, Z0]) R R R (fun _ _ => by kernel_rfl) ?_)
   obtain ⟨cf, cF, cp, bq⟩ := Sa [Vi 0, Z0, Z0] tagg26 i R R R
   refine Ys cf _ _ R cF (I1 ?_)
   have b := b.ev bq
   have f := f.then bq (fun ab ac => .inr (j.at 0 R ab ac))
   have i := cp
   refine Xu 2 [(7, Vi 0), (8, Vi 8)] (Xk (Cr (Kr (Rr (Rv [.agg #[Vi 0, Z0, Z0], Vi 0, Vi 8] ⟨⟨_, R, Lv (Ra (Mo := []) 0 [Vi 0, Z0, Z0] tagg26 i nn R)⟩, R, R, T0⟩ ?_)))))
   obtain rfl := Sj l
   have a3 := b.pick [none, none, some 4] [Bk none, Bk none, d] R
   have a1 := j.pick [none, none] [Bk none, Bk none] R
   exact ⟨none, 0, none, 0, R, f, a3, a1, OwnS.nil _ _ _ _, OwnS.nil _ _ _ _⟩
 refine Ck (Kt (Cs (Yl _ _ R (Ra 0 [Vi x, Vl aE bb a9, Vl aF bc ba] tagg26 bs nn R) ?_)))
 obtain ⟨aj, I, l⟩ := Bs l
 have am := b.pk [0, 3, 4] ([] ++ [[a], [aG], d]) R
 have bH := Fk (ls := [[a], Bk aE, Bk aF, [aG], d]) [0, 3, 4] [[a], [aG], d] R
 have G := bowl_foul_w x aE a9 bb aF ba bc _ aY (fl [[a], [aG], d]) (MS.fold (P := []) am) (bm.ro bH (Po b 1 R [0, 3, 4] [[a], [aG], d] R R)) (bn.ro bH (Po b 2 R [0, 3, 4] [[a], [aG], d] R R)) I
 refine Xc 19 #[] #[] _ _ R R R R G ?_
 rintro aq bk ⟨rfl, Z⟩
 refine I1 ?_
 have g := Stp.ext (ls := [[a], Bk aE, Bk aF, [aG], d]) Z
 have i := Z.box i nn
 have bs := Z.box bs nn
 have bm := bm.step g Z nn2
 have bn := bn.step g Z nn2
 have b := b.ev Z
 have f := f.ext Z
 refine Xu 5 [(75, .tuple #[Vi aj.1, Vi aj.2]), (78, Vi aj.1), (79, Vi aj.2), (12, Vi aj.1), (13, Vi aj.2)] (Xk (Cs (Yl _ _ R (Ra 0 [Vi x, Vl aE bb a9, Vl aF bc ba] tagg26 bs nn R) (Xu 1 [(81, Vi aj.1)] ?_))))
 obtain ⟨cY, cG, cq, bD⟩ := Sa [Vi x, Vl aE bb a9, Vl aF bc ba] tagg26 i R R R
 refine Ys cY _ _ R cG (I1 ?_)
 have g := Stp.ev' (ls := [[a], Bk aE, Bk aF, [aG], d]) bD (Mf 0 R)
 have bm := bm.step g bD (b.apart 1 0 R R R)
 have bn := bn.step g bD (b.apart 2 0 R R R)
 have b := b.ev bD
 have f := f.then bD (fun ab ac => .inr (j.at 0 R ab ac))
 have i := cq
 refine Xu 2 [(7, Vi aj.1), (8, Vi 0)] (Xk (Cr (Rr (Rv [.agg #[Vi x, Vl aE bb a9, Vl aF bc ba], Vi aj.1, Vi 0] ⟨⟨_, R, Lv (Ra (Mo := []) 0 [Vi x, Vl aE bb a9, Vl aF bc ba] tagg26 i nn R)⟩, R, R, T0⟩ ?_))))
 obtain rfl := Sj l
 have a3 := b.pk [1, 2, 4] [Bk aE, Bk aF, d] R
 have L := Pk (ls := [[a], Bk aE, Bk aF, [aG], d]) [1, 2, 4] [Bk aE, Bk aF, d] R
 have a1 := j.pk [1, 2] [Bk aE, Bk aF] R
 exact ⟨aE, a9, aF, ba, R, f, a3, a1, bm.sub L, bn.sub L⟩
def bowl_Free (a : Int) (b : List Int) (c : List Int) : Option Int :=
((bowl_Valid a b c).bind fun d =>
(if (!d) = true then
some 0
else
((bowl_foul a b c).bind fun e =>
some e.2)))
theorem bowl_Free_w (j e g c f h d y m k) (n : MS m [k]) (o : SlR eI m (fl [k]) e g c) (p : SlR eI m (fl [k]) f h d) (b : bowl_Free j c d = some y) : CallVC Tryz.prog 10 [.agg #[Vi j, Vl e c g, Vl f d h]] m fun w C => w = Vi y ∧ Ev [] m C := by
 refine Cv hmx Tryz.func10 (by kernel_rfl) R (rs := [.tmp 2]) R (by kernel_rfl) (args := [.agg #[Vi j, Vl e c g, Vl f d h]]) R ?_
 have i : Ev [] m m := Ev.refl _ _
 refine Cs (Yb _ R (fun r z x l u F => ?_))
 replace l : z.heap[r]? = some (.cells #[Vi j, Vl e c g, Vl f d h] 26 (0, 0)) := l
 refine I1 ?_
 have q := Stp.box (ls := [k]) u x
 have o := o.step q
 have p := p.step q
 have n := n.box u x l
 have i := i.ext u
 refine Xu 1 [(2, Vi 0)] (Xk (Cq (Cs (Yl _ _ R (Ra 0 [Vi j, Vl e c g, Vl f d h] tagg26 l nn R) ?_))))
 obtain ⟨A, v, b⟩ := Bs b
 have t := bowl_Valid_w j e g c f h d _ z (fl [[r], k]) (MS.fold (P := []) n) (o.sub fl1) (p.sub fl1) v
 refine Xc 17 #[] #[] _ _ R R R R t ?_
 rintro w D ⟨rfl, s⟩
 refine I1 ?_
 have q := Stp.ext (ls := [[r], k]) s
 have o := o.step q
 have p := p.step q
 have l := s.box l nn
 have n := n.ev s
 have i := i.ext s
 refine Xu 1 [(7, .bool (!A))] (Xk (Ci (!A) R b (fun b => ?_) (fun b => ?_)))
 · refine Cs (Xu 1 [(2, Vi 0)] (Xk (Cr (Kr (Rr (Rv [Vi 0] ⟨R, T0⟩ ?_))))))
   obtain rfl := Sj b
   exact ⟨R, i⟩
 refine Ck (Kt (Cs (Yl _ _ R (Ra 0 [Vi j, Vl e c g, Vl f d h] tagg26 l nn R) ?_)))
 obtain ⟨a, v, b⟩ := Bs b
 have t := bowl_foul_w j e g c f h d _ D (fl [[r], k]) (MS.fold (P := []) n) (o.sub fl1) (p.sub fl1) v
 refine Xc 19 #[] #[] _ _ R R R R t ?_
 rintro w G ⟨rfl, B⟩
 refine I1 ?_
 have i := i.ext B
 refine Xu 5 [(8, .tuple #[Vi a.1, Vi a.2]), (11, Vi a.1), (12, Vi a.2), (3, Vi a.1), (4, Vi a.2)] (Xk (Cs (Xu 2 [(13, Vi a.2), (2, Vi a.2)] (Xk (Cn [(2, Vi a.2)] (fun E => ?_))))))
 refine Cr (Rr (Rv [Vi a.2] ⟨R, T0⟩ ?_))
 obtain rfl := Sj b
 exact ⟨R, i⟩
def bowl_Shorten (d : List (Int × Int × Int × Int × Int)) (c : Int) : Option ((List (Int × Int × Int × Int × Int)) × Int) :=
((runoff_Valid d).bind fun e =>
(if (e != 0) = true then
some ([], e)
else
((slices_Clone_humpyard_api_Piece_humpyard_api_Piece_ d).bind fun b =>
((idx b (i64.wrap (((b).length : Int) - 1))).bind fun a =>
(if (decide (c < 1)) = true then
some ([], 14)
else
(if (decide (c > a.2.1)) = true then
some ([], 14)
else
some ((b.set (Int.toNat (i64.wrap (((b).length : Int) - 1))) (a.1, c, a.2.2.1, a.2.2.2.1, a.2.2.2.2)), 0)))))))
theorem bowl_Shorten_w (m o l e w k f) (h : MS k [f]) (v : SlR (eProd eI (eIt4)) k (fl [f]) m o l) (c : bowl_Shorten l e = some w) : CallVC Tryz.prog 11 [Vl m l o, Vi e] k fun C D => ∃ u F, C = .tuple #[Vl u w.1 F, Vi w.2] ∧ Ev [] k D ∧ MS D [Bk u, f] ∧ FR k.heap.size [Bk u] ∧ OwnS (eProd eI (eIt4)) 35 D (fl [Bk u, f]) u F w.1 := by
 refine Cv hmx Tryz.func11 (by kernel_rfl) R (rs := [.tmp 4, .tmp 5]) R (by kernel_rfl) (args := [Vl m l o, Vi e]) R ?_
 have j : Ev [] k k := Ev.refl _ _
 have q : FR k.heap.size [] := FR.nil _
 refine Cs (Xu 2 [(4, Z0), (5, Vi 0)] (Xk (Cq (Cs (Xu 1 [(9, Vl m l o)] ?_)))))
 obtain ⟨s, B, c⟩ := Bs c
 have z := runoff_Valid_w m o l _ k (fl [f]) (MS.fold (P := []) h) (v.sub fl1) B
 refine Xc 21 #[] #[] _ _ R R R R z ?_
 rintro C ad ⟨rfl, A⟩
 refine I1 ?_
 have aa := Stp.ext (ls := [f]) A
 have v := v.step aa
 have h := h.ev A
 have j := j.ext A
 refine Xu 1 [(6, Vi s)] (Xk (Cs (Xu 2 [(11, Vi s), (12, .bool (s != 0))] (Xk (Ci (s != 0) R c (fun c => ?_) (fun c => ?_))))))
 · refine Cs (Xu 3 [(13, Vi s), (4, Z0), (5, Vi s)] (Xk (Cr (Kr (Rr (Rv [Z0, Vi s] ⟨R, R, T0⟩ ?_))))))
   obtain rfl := Sj c
   have r := h.pick [none, some 0] [Bk none, f] R
   have p := q.pick [none] [Bk none] R
   exact ⟨none, 0, R, j, r, p, OwnS.nil _ _ _ _⟩
 refine Ck (Kt (Cs (Xu 1 [(14, Vl m l o)] ?_)))
 obtain ⟨a, B, c⟩ := Bs c
 have z := slices_Clone_humpyard_api_Piece_humpyard_api_Piece__w m o l _ ad (fl [f]) (MS.fold (P := []) h) (v.sub fl1) B
 refine Xc 22 #[] #[] _ _ R R R R z ?_
 rintro C af ⟨d, g, rfl, H, S, I, t⟩
 refine I1 ?_
 have h := MS.call0 [Bk d] [Bk d, f] h H S I R
 have Q := FR.call0 [Bk d] j.size I q R
 have j := j.ext H
 have q := Q
 have t := OwnS.plain (M' := fl [Bk d, f]) (Pp (Pi _) (Pp (Pi _) (Pp (Pi _) (Pp (Pi _) (Pi _))))) t
 refine Xu 1 [(7, Vl d a g)] (Xk (Cs (Xu 2 [(16, Vl d a g), (17, Vl d a g)] (Xn (vs := [Vl d a g]) (Vi ((a).length : Int)) R R R (Rl tsl32 _ _ _ _ _) (Xu 1 [(19, Vi (i64.wrap (((a).length : Int) - 1)))] ?_)))))
 obtain ⟨b, J, c⟩ := Bs c
 obtain ⟨i, ae, L, Y, O, x⟩ := Oi (Mo := []) tsl32 t J
 obtain ⟨_, _, rfl, rfl, ⟨_, _, rfl, rfl, ⟨_, _, rfl, rfl, ⟨_, _, rfl, rfl, rfl⟩⟩⟩⟩ := x
 refine Yi _ _ _ R Y (Xu 1 [(8, (Px i ((Int.toNat (i64.wrap (((a).length : Int) - 1))) * (eProd eI (eIt4)).n)))] (Xk (Cn [(1, Vi e), (7, Vl d a g), (8, (Px i ((Int.toNat (i64.wrap (((a).length : Int) - 1))) * (eProd eI (eIt4)).n)))] (fun E => ?_))))
 refine Cq (Cs (Xu 3 [(21, Vi e), (22, Bd (e < 1)), (23, Bd (e < 1))] (Xw 23 (decide (e < 1)) R c (fun c => ?_) (fun c => ?_))))
 · refine Xu 7 [(24, U0), (25, U0), (26, U0), (27, U0), (28, U0), (29, U0), (30, .bool true)] (Xk (c_true R (Cs (Xu 2 [(4, Z0), (5, Vi 14)] (Xk (Cr (Kr (Rr (Rv [Z0, Vi 14] ⟨R, R, T0⟩ ?_)))))))))
   obtain rfl := Sj c
   have r := h.pick [none, some 1] [Bk none, f] R
   have p := q.pick [none] [Bk none] R
   exact ⟨none, 0, R, j, r, p, OwnS.nil _ _ _ _⟩
 refine Xu 3 [(24, Vi e), (25, (Px i ((Int.toNat (i64.wrap (((a).length : Int) - 1))) * (eProd eI (eIt4)).n))), (26, (Px i ((Int.toNat (i64.wrap (((a).length : Int) - 1))) * (eProd eI (eIt4)).n)))] (Yf ((Px i ((Int.toNat (i64.wrap (((a).length : Int) - 1))) * (eProd eI (eIt4)).n))) ((Px i ((Int.toNat (i64.wrap (((a).length : Int) - 1))) * (eProd eI (eIt4)).n + 1))) R (Rf tfld35_1 _ _) (Yl ((Px i ((Int.toNat (i64.wrap (((a).length : Int) - 1))) * (eProd eI (eIt4)).n + 1))) (Vi b.2.1) R (reads_cell tcell3 O (fun _ c => by cases c) 1 _ R) ?_))
 refine Xu 2 [(29, Bd (e > b.2.1)), (30, Bd (e > b.2.1))] (Xk (Ci (decide (e > b.2.1)) R c (fun c => ?_) (fun c => ?_)))
 · refine Cs (Xu 2 [(4, Z0), (5, Vi 14)] (Xk (Cn [(4, Z0), (5, Vi 14)] (fun E => ?_))))
   refine Cr (Kr (Rr (Rv [Z0, Vi 14] ⟨R, R, T0⟩ ?_)))
   obtain rfl := Sj c
   have r := h.pick [none, some 1] [Bk none, f] R
   have p := q.pick [none] [Bk none] R
   exact ⟨none, 0, R, j, r, p, OwnS.nil _ _ _ _⟩
 refine Ck (Kt (Cs (Xu 3 [(31, (Px i ((Int.toNat (i64.wrap (((a).length : Int) - 1))) * (eProd eI (eIt4)).n))), (32, Vi e), (33, (Px i ((Int.toNat (i64.wrap (((a).length : Int) - 1))) * (eProd eI (eIt4)).n)))] (Yf ((Px i ((Int.toNat (i64.wrap (((a).length : Int) - 1))) * (eProd eI (eIt4)).n))) ((Px i ((Int.toNat (i64.wrap (((a).length : Int) - 1))) * (eProd eI (eIt4)).n + 1))) R (Rf tfld35_1 _ _) ?_))))
 obtain ⟨ac, X, G, U⟩ := own_storeE L (y := (b.1, e, b.2.2.1, b.2.2.2.1, b.2.2.2.2)) 1 (Vi e) tcell3 t (Mf 0 R) J R R (by intro k f cs x; obtain ⟨_, _, rfl, rfl, ⟨_, _, rfl, rfl, ⟨_, _, rfl, rfl, ⟨_, _, rfl, rfl, rfl⟩⟩⟩⟩ := x; exact ⟨[_], _, R, R, ⟨[_], _, R, R, ⟨[_], _, R, R, ⟨[_], _, R, R, R⟩⟩⟩⟩)
 refine Ys ac _ _ R X (I1 ?_)
 have h := h.ev G
 have j := j.then G (fun K N => .inr (q.at 0 R K N))
 have t := U
 have Z : (Vl d a g) = (Vl d ((a.set (Int.toNat (i64.wrap (((a).length : Int) - 1))) (b.1, e, b.2.2.1, b.2.2.2.1, b.2.2.2.2))) g) := by simp only [Vl, List.length_set]
 try rw [Z]
 refine Xk (Cn [(7, Vl d ((a.set (Int.toNat (i64.wrap (((a).length : Int) - 1))) (b.1, e, b.2.2.1, b.2.2.2.1, b.2.2.2.2))) g)] (fun E => ?_))
 refine Cs (Xu 3 [(35, Vl d ((a.set (Int.toNat (i64.wrap (((a).length : Int) - 1))) (b.1, e, b.2.2.1, b.2.2.2.1, b.2.2.2.2))) g), (4, Vl d ((a.set (Int.toNat (i64.wrap (((a).length : Int) - 1))) (b.1, e, b.2.2.1, b.2.2.2.1, b.2.2.2.2))) g), (5, Vi 0)] (Xk (Cr (Rr (Rv [Vl d ((a.set (Int.toNat (i64.wrap (((a).length : Int) - 1))) (b.1, e, b.2.2.1, b.2.2.2.1, b.2.2.2.2))) g, Vi 0] ⟨R, R, T0⟩ ?_)))))
 obtain rfl := Sj c
 have r := h.pk [0, 1] [Bk d, f] R
 have ab := Pk (ls := [Bk d, f]) [0, 1] [Bk d, f] R
 have p := q.pk [0] [Bk d] R
 exact ⟨d, g, R, j, r, p, t.sub ab⟩
def bowl_root_L3 (c : Int) (d : Int × Int) : Option (Step (Int × Int) Int) :=
match d with
| (a, b) =>
(if (decide ((i64.wrap (a + 1)) < b)) = true then
(if (decide ((i64.wrap ((i64.wrap (Int.tdiv (i64.wrap (a + b)) 2)) * (i64.wrap (Int.tdiv (i64.wrap (a + b)) 2)))) ≤ c)) = true then
some (.next (i64.wrap (Int.tdiv (i64.wrap (a + b)) 2), b))
else
some (.next (a, i64.wrap (Int.tdiv (i64.wrap (a + b)) 2))))
else
some (.done a))
def bowl_root_L2 (b : Int) (c : Int) : Option (Step Int Int) :=
match c with
| a =>
(if (decide ((i64.wrap (a * a)) ≤ b)) = true then
some (.next (i64.wrap (a * 2)))
else
some (.done a))
def bowl_root (b : Int) : Option Int :=
((loop (bowl_root_L2 b) 1).bind fun a => match a with
| c => ((loop (bowl_root_L3 b) (0, c)).bind fun a => match a with
| d => some d))
theorem bowl_root_w (e v g) (c : bowl_root e = some v) : CallVC Tryz.prog 28 [Vi e] g fun B k => B = Vi v ∧ Ev [] g k := by
 refine Cv hmx Tryz.func28 (by kernel_rfl) R (rs := [.tmp 2]) R (by kernel_rfl) (args := [Vi e]) R ?_
 have h : Ev [] g g := Ev.refl _ _
 have j : MS g [[]] := ⟨List.pairwise_singleton _ _, fun D u C A => by simp only [List.mem_singleton] at u; subst u; cases A⟩
 have i : FR g.heap.size [] := FR.nil _
 refine Cs (Xu 1 [(2, Vi 0)] (Xk (Cs (Xu 2 [(3, Vi 0), (4, Vi 1)] (Xk (Cq (Cb ?_)))))))
 obtain ⟨w, q, y⟩ := Bs c
 obtain ⟨p, q⟩ := Lo q
 refine Cl (Lr hmx (σ := Nat × Int) (fun f => match f with | (_, d) => [(0, Vi e), (3, Vi 0), (4, Vi d)]) (fun f k => match f with | (t, d) => loopN (bowl_root_L2 e) t d = some w ∧ Ev [] g k ∧ MS k [[]] ∧ FR g.heap.size []) (fun f => f.1) (p, 1) ⟨R, R, R, T0⟩ ⟨q, h, j, i⟩ ?_)
 rintro ⟨p, d⟩ n G ⟨o, h, j, i⟩
 rcases p with _ | p
 · exact (Lz o).elim
 obtain ⟨E, c, o⟩ := Bs o
 refine Cq (Cs (Xu 5 [(6, Vi d), (7, Vi d), (8, Vi (i64.wrap (d * d))), (9, Vi e), (10, Bd ((i64.wrap (d * d)) ≤ e))] (Xk (Cn [(0, Vi e), (3, Vi 0), (4, Vi d), (10, Bd ((i64.wrap (d * d)) ≤ e))] (fun n => ?_)))))
 refine Ci (decide ((i64.wrap (d * d)) ≤ e)) R c (fun c => ?_) (fun c => ?_)
 · refine Ck (Kt (Cb (Cp (Xu 3 [(11, Vi d), (12, Vi (i64.wrap (d * 2))), (4, Vi (i64.wrap (d * 2)))] (Xe R (Kl ?_))))))
   obtain rfl := Sj c
   exact Kt ⟨(p, i64.wrap (d * 2)), ⟨R, R, R, T0⟩, ⟨o, h, j, i⟩, Ns _⟩
 refine Ce (Ke ?_)
 obtain rfl := Sj c
 have s := Sj o
 subst s
 have c := y
 refine Ke (Ki (Kt (Cn [(0, Vi e), (3, Vi 0), (4, Vi d)] (fun n => ?_))))
 refine Cq (Cb ?_)
 obtain ⟨x, r, z⟩ := Bs c
 obtain ⟨m, r⟩ := Lo r
 refine Cl (Lr hmx (σ := Nat × Int × Int) (fun f => match f with | (_, a, b) => [(0, Vi e), (3, Vi a), (4, Vi b)]) (fun f k => match f with | (t, a, b) => loopN (bowl_root_L3 e) t (a, b) = some x ∧ Ev [] g k ∧ MS k [[]] ∧ FR g.heap.size []) (fun f => f.1) (m, 0, d) ⟨R, R, R, T0⟩ ⟨r, h, j, i⟩ ?_)
 rintro ⟨m, a, b⟩ n H ⟨l, h, j, i⟩
 rcases m with _ | m
 · exact (Lz l).elim
 obtain ⟨F, c, l⟩ := Bs l
 refine Cq (Cs (Xu 4 [(13, Vi a), (14, Vi (i64.wrap (a + 1))), (15, Vi b), (16, Bd ((i64.wrap (a + 1)) < b))] (Xk (Cn [(0, Vi e), (3, Vi a), (4, Vi b), (16, Bd ((i64.wrap (a + 1)) < b))] (fun n => ?_)))))
 refine Ci (decide ((i64.wrap (a + 1)) < b)) R c (fun c => ?_) (fun c => ?_)
 · refine Ck (Kt (Cb (Cs (Xu 5 [(17, Vi a), (18, Vi b), (19, Vi (i64.wrap (a + b))), (20, Vi (i64.wrap (Int.tdiv (i64.wrap (a + b)) 2))), (5, Vi (i64.wrap (Int.tdiv (i64.wrap (a + b)) 2)))] (Xk (Cs (Xu 5 [(21, Vi (i64.wrap (Int.tdiv (i64.wrap (a + b)) 2))), (22, Vi (i64.wrap (Int.tdiv (i64.wrap (a + b)) 2))), (23, Vi (i64.wrap ((i64.wrap (Int.tdiv (i64.wrap (a + b)) 2)) * (i64.wrap (Int.tdiv (i64.wrap (a + b)) 2))))), (24, Vi e), (25, .bool (decide ((i64.wrap ((i64.wrap (Int.tdiv (i64.wrap (a + b)) 2)) * (i64.wrap (Int.tdiv (i64.wrap (a + b)) 2)))) ≤ e)))] (Xk (Ci (decide ((i64.wrap ((i64.wrap (Int.tdiv (i64.wrap (a + b)) 2)) * (i64.wrap (Int.tdiv (i64.wrap (a + b)) 2)))) ≤ e)) R c (fun c => ?_) (fun c => ?_))))))))))
   · refine Cp (Xu 2 [(26, Vi (i64.wrap (Int.tdiv (i64.wrap (a + b)) 2))), (3, Vi (i64.wrap (Int.tdiv (i64.wrap (a + b)) 2)))] (Xe R (Kl ?_)))
     obtain rfl := Sj c
     exact Kt ⟨(m, i64.wrap (Int.tdiv (i64.wrap (a + b)) 2), b), ⟨R, R, R, T0⟩, ⟨l, h, j, i⟩, Ns _⟩
   refine Cp (Xu 2 [(27, Vi (i64.wrap (Int.tdiv (i64.wrap (a + b)) 2))), (4, Vi (i64.wrap (Int.tdiv (i64.wrap (a + b)) 2)))] (Xe R (Kl ?_)))
   obtain rfl := Sj c
   exact Kt ⟨(m, a, i64.wrap (Int.tdiv (i64.wrap (a + b)) 2)), ⟨R, R, R, T0⟩, ⟨l, h, j, i⟩, Ns _⟩
 refine Ce (Ke ?_)
 obtain rfl := Sj c
 have s := Sj l
 subst s
 have c := z
 refine Ke (Ki (Kt (Cn [(3, Vi a)] (fun n => ?_))))
 refine Cs (Xu 2 [(28, Vi a), (2, Vi a)] (Xk (Cr (Rr (Rv [Vi a] ⟨R, T0⟩ ?_)))))
 obtain rfl := Sj c
 exact ⟨R, h⟩
def bowl_Coupling_J26 (c : (Int × Int) × (Int × Int) × Bool × Bool) (b : Int) (a : Int) : Option ((Int × Int) × Int) :=
(if (decide ((i64.wrap (a * a)) < c.2.1.2)) = true then
some ((b, i64.wrap (a + 1)), 0)
else
some ((b, a), 0))
def bowl_Coupling (d : List (Int × Int × Int × Int × Int)) (e : Int) (f : Int) (g : List (Int × Int)) (h : Int) (i : List Int) (j : Int) : Option ((Int × Int) × Int) :=
((bowl_Shorten d j).bind fun c =>
(if (c.2 != 0) = true then
some ((0, 0), c.2)
else
((runoff_Pass c.1 e f g h i).bind fun b =>
(if (b.2 != 0) = true then
some ((0, 0), b.2)
else
((idx b.1 (i64.wrap (((b.1).length : Int) - 1))).bind fun a =>
(if a.2.2.1 = true then
some ((0, 0), 24)
else
(if a.2.2.2 = true then
some ((0, 0), 24)
else
((bowl_root a.2.1.1).bind fun k =>
((bowl_root a.2.1.2).bind fun l =>
bowl_Coupling_J26 a k l)))))))))
theorem bowl_Coupling_w (an ao ah ai aj aa ae X ak ab af Y aw ax B k) (c : MS B [k]) (av : SlR (eProd eI (eIt4)) B (fl [k]) an ao ah) (S : SlR (eProd eI eI) B (fl [k]) aa ae X) (U : SlR eI B (fl [k]) ab af Y) (d : bowl_Coupling ah ai aj X ak Y aw = some ax) : CallVC Tryz.prog 14 [Vl an ah ao, .agg #[Vi ai, Vi aj, Vl aa X ae, Vi ak, Vl ab Y af], Vi aw] B fun J Z => J = .tuple #[.agg #[Vi ax.1.1, Vi ax.1.2], Vi ax.2] ∧ Ev [] B Z := by
 refine Cv hmx Tryz.func14 (by kernel_rfl) R (rs := [.cell 6 37, .tmp 7]) R (by kernel_rfl) (args := [Vl an ah ao, .agg #[Vi ai, Vi aj, Vl aa X ae, Vi ak, Vl ab Y af], Vi aw]) R ?_
 have a : Ev [] B B := Ev.refl _ _
 have f : FR B.heap.size [] := FR.nil _
 refine Cs (Yb _ R (fun p bC aO H aI bK => ?_))
 replace H : bC.heap[p]? = some (.cells #[Vi ai, Vi aj, Vl aa X ae, Vi ak, Vl ab Y af] 40 (0, 0)) := H
 refine I1 ?_
 have E := Stp.box (ls := [k]) aI aO
 have av := av.step E
 have S := S.step E
 have U := U.step E
 have c := c.box aI aO H
 have f := f.box a.size aO
 have a := a.ext aI
 refine Xa (z := .agg #[Vi 0, Vi 0]) R R (by kernel_rfl) (fun h a4 aQ b aC bL => ?_)
 replace b : a4.heap[h]? = some (.cells #[Vi 0, Vi 0] 37 (0, 0)) := b
 refine I1 ?_
 have E := Stp.box (ls := [[p], k]) aC aQ
 have av := av.step E
 have S := S.step E
 have U := U.step E
 have H := aC.box H nn
 have c := c.box aC aQ b
 have f := f.box a.size aQ
 have a := a.ext aC
 refine Xu 1 [(7, Vi 0)] (Xk (Cs (Xu 2 [(14, Vl an ah ao), (15, Vi aw)] ?_)))
 obtain ⟨r, w, d⟩ := Bs d
 have u := bowl_Shorten_w an ao ah aw _ a4 (fl [[h], [p], k]) (MS.fold (P := []) c) (av.sub fl1) w
 refine Xc 11 #[] #[] _ _ R R R R u ?_
 rintro J bD ⟨q, ad, rfl, ar, bj, aL, aK⟩
 refine I1 ?_
 have E := Stp.call0 [[h], [p], k] [Bk q] [Bk q, [h], [p], k] ar aL R
 have S := S.step E
 have U := U.step E
 have H := ar.box H nn
 have b := ar.box b nn
 have c := MS.call0 [Bk q] [Bk q, [h], [p], k] c ar bj aL R
 have aN := FR.call0 [Bk q, [h], [p]] a.size aL f R
 have a := a.ext ar
 have f := aN
 have aK := OwnS.plain (M' := fl [Bk q, [h], [p], k]) (Pp (Pi _) (Pp (Pi _) (Pp (Pi _) (Pp (Pi _) (Pi _))))) aK
 refine Xu 5 [(13, .tuple #[Vl q r.1 ad, Vi r.2]), (17, Vl q r.1 ad), (18, Vi r.2), (8, Vl q r.1 ad), (9, Vi r.2)] (Xk (Cq (Cs (Xu 2 [(19, Vi r.2), (20, .bool (r.2 != 0))] (Xk (Ci (r.2 != 0) R d (fun d => ?_) (fun d => ?_)))))))
 · refine Cs (Xd (vs := []) (.agg #[Vi 0, Vi 0]) R R R (fun _ _ => by kernel_rfl) ?_)
   refine Xu 1 [(22, Vi r.2)] ?_
   obtain ⟨bu, bk, a7, be⟩ := Sa [Vi 0, Vi 0] tagg37 b R R R
   refine Ys bu _ _ R bk (I1 ?_)
   have a := a.then be (fun l m => .inr (f.at 1 R l m))
   have b := a7
   refine Xu 1 [(7, Vi r.2)] (Xk (Cn [(6, Vp h 0), (7, Vi r.2)] (fun am => ?_)))
   refine Cr (Kr (Rr (Rv [.agg #[Vi 0, Vi 0], Vi r.2] ⟨⟨_, R, Lv (Ra (Mo := []) 0 [Vi 0, Vi 0] tagg37 b nn R)⟩, R, T0⟩ ?_)))
   obtain rfl := Sj d
   exact ⟨R, a⟩
 refine Ck (Kt (Cn [(4, Vp p 0), (6, Vp h 0), (8, Vl q r.1 ad)] (fun am => ?_)))
 refine Cs (Xu 1 [(24, Vl q r.1 ad)] (Yl _ _ R (Ra 0 [Vi ai, Vi aj, Vl aa X ae, Vi ak, Vl ab Y af] tagg40 H nn R) ?_))
 obtain ⟨o, w, d⟩ := Bs d
 have Q := c.pk [1, 2, 3] ([] ++ [[h], [p], k]) R
 have aS := Fk (ls := [Bk q, [h], [p], k]) [1, 2, 3] [[h], [p], k] R
 have u := runoff_Pass_w q ad r.1 ai aj aa ae X ak ab af Y _ bD (fl [[h], [p], k]) (MS.fold (P := []) Q) (aK.ro aS (Po c 0 R [1, 2, 3] [[h], [p], k] R R)) (S.sub aS) (U.sub aS) w
 refine Xc 27 #[] #[] _ _ R R R R u ?_
 rintro J bN ⟨C, ac, rfl, aF, bi, aY, aJ⟩
 refine I1 ?_
 have b := aF.box b nn
 have c := MS.call0 [Bk C] [Bk C, Bk q, [h], [p], k] c aF bi aY R
 have aN := FR.call0 [Bk C, Bk q, [h], [p]] a.size aY f R
 have a := a.ext aF
 have f := aN
 have aJ := OwnS.plain (M' := fl [Bk C, Bk q, [h], [p], k]) (Pp (Pp (Pi _) (Pi _)) (Pp (Pp (Pi _) (Pi _)) (Pp plain_bool plain_bool))) aJ
 refine Xu 5 [(23, .tuple #[Vl C o.1 ac, Vi o.2]), (27, Vl C o.1 ac), (28, Vi o.2), (10, Vl C o.1 ac), (9, Vi o.2)] (Xk (Cq (Cs (Xu 2 [(29, Vi o.2), (30, .bool (o.2 != 0))] (Xk (Ci (o.2 != 0) R d (fun d => ?_) (fun d => ?_)))))))
 · refine Cs (Xd (vs := []) (.agg #[Vi 0, Vi 0]) R R R (fun _ _ => by kernel_rfl) ?_)
   refine Xu 1 [(32, Vi o.2)] ?_
   obtain ⟨bv, bl, a8, bf⟩ := Sa [Vi 0, Vi 0] tagg37 b R R R
   refine Ys bv _ _ R bl (I1 ?_)
   have a := a.then bf (fun l m => .inr (f.at 2 R l m))
   have b := a8
   refine Xu 1 [(7, Vi o.2)] (Xk (Cn [(6, Vp h 0), (7, Vi o.2)] (fun am => ?_)))
   refine Cr (Kr (Rr (Rv [.agg #[Vi 0, Vi 0], Vi o.2] ⟨⟨_, R, Lv (Ra (Mo := []) 0 [Vi 0, Vi 0] tagg37 b nn R)⟩, R, T0⟩ ?_)))
   obtain rfl := Sj d
   exact ⟨R, a⟩
 refine Ck (Kt (Cs (Xu 2 [(33, Vl C o.1 ac), (34, Vl C o.1 ac)] (Xn (vs := [Vl C o.1 ac]) (Vi ((o.1).length : Int)) R R R (Rl tsl119 _ _ _ _ _) (Xu 1 [(36, Vi (i64.wrap (((o.1).length : Int) - 1)))] ?_)))))
 obtain ⟨g, bt, d⟩ := Bs d
 obtain ⟨a5, bE, bF, bm, bd, a6⟩ := Oi (Mo := []) tsl119 aJ bt
 obtain ⟨_, _, rfl, ⟨_, _, rfl, rfl, rfl⟩, ⟨_, _, rfl, ⟨_, _, rfl, rfl, rfl⟩, ⟨_, _, rfl, rfl, rfl⟩⟩⟩ := a6
 refine Yi _ _ _ R bm (Yl ((Px a5 ((Int.toNat (i64.wrap (((o.1).length : Int) - 1))) * (eProd (eProd eI eI) (eProd (eProd eI eI) (eProd eBool eBool))).n))) (.agg #[Vi g.1.1, Vi g.1.2, Vi g.2.1.1, Vi g.2.1.2, .bool g.2.2.1, .bool g.2.2.2]) R (reads_agg tagg123 bd (fun _ d => by cases d)) ?_)
 refine Xa (z := .agg #[Vi 0, Vi 0, Vi 0, Vi 0, .bool false, .bool false]) R R (by kernel_rfl) (fun j bw aZ e aG bG => ?_)
 replace e : bw.heap[j]? = some (.cells #[Vi 0, Vi 0, Vi 0, Vi 0, .bool false, .bool false] 123 (0, 0)) := e
 refine I1 ?_
 have b := aG.box b nn
 have c := c.box aG aZ e
 have f := f.box a.size aZ
 have a := a.ext aG
 obtain ⟨al, bn, a9, aH⟩ := Sa [Vi g.1.1, Vi g.1.2, Vi g.2.1.1, Vi g.2.1.2, .bool g.2.2.1, .bool g.2.2.2] tagg123 e R R R
 refine Ys al _ _ R bn (I1 ?_)
 have b := aH.box b (c.apart 3 0 R R R _ mem1)
 have c := c.ev aH
 have a := a.then aH (fun l m => .inr (f.at 0 R l m))
 have e := a9
 refine Xk (Cn [(6, Vp h 0), (11, Vp j 0)] (fun am => ?_))
 refine Cq (Cs (Yg j 0 4 (.bool g.2.2.1) R R (Rf tfld123_2 _ _) tcell4 e nn R (Xu 1 [(41, .bool g.2.2.1)] (Xw 41 g.2.2.1 R d (fun d => ?_) (fun d => ?_)))))
 · refine Xu 3 [(42, U0), (43, U0), (44, .bool true)] (Xk (c_true R (Cs (Xd (vs := []) (.agg #[Vi 0, Vi 0]) R R R (fun _ _ => by kernel_rfl) ?_))))
   obtain ⟨bx, bo, ba, bg⟩ := Sa [Vi 0, Vi 0] tagg37 b R R R
   refine Ys bx _ _ R bo (I1 ?_)
   have a := a.then bg (fun l m => .inr (f.at 3 R l m))
   have b := ba
   refine Xu 1 [(7, Vi 24)] (Xk (Cr (Kr (Rr (Rv [.agg #[Vi 0, Vi 0], Vi 24] ⟨⟨_, R, Lv (Ra (Mo := []) 0 [Vi 0, Vi 0] tagg37 b nn R)⟩, R, T0⟩ ?_)))))
   obtain rfl := Sj d
   exact ⟨R, a⟩
 refine Yg j 0 5 (.bool g.2.2.2) R R (Rf tfld123_3 _ _) tcell4 e nn R (Xu 1 [(44, .bool g.2.2.2)] (Xk (Ci g.2.2.2 R d (fun d => ?_) (fun d => ?_))))
 · refine Cs (Xd (vs := []) (.agg #[Vi 0, Vi 0]) R R R (fun _ _ => by kernel_rfl) ?_)
   obtain ⟨bz, bp, bb, bh⟩ := Sa [Vi 0, Vi 0] tagg37 b R R R
   refine Ys bz _ _ R bp (I1 ?_)
   have a := a.then bh (fun l m => .inr (f.at 3 R l m))
   have b := bb
   refine Xu 1 [(7, Vi 24)] (Xk (Cr (Kr (Rr (Rv [.agg #[Vi 0, Vi 0], Vi 24] ⟨⟨_, R, Lv (Ra (Mo := []) 0 [Vi 0, Vi 0] tagg37 b nn R)⟩, R, T0⟩ ?_)))))
   obtain rfl := Sj d
   exact ⟨R, a⟩
 refine Ck (Kt (c_join (σ := Int × Int × Nat) (fun aU => match aU with | (t, i, x) => [(6, Vp h 0), (11, Vp j 0), (12, Vp x 0)]) (fun aU Z => match aU with | (t, i, x) => bowl_Coupling_J26 g t i = some ax ∧ Ev [] B Z ∧ MS Z [[h], [j], [x], k] ∧ FR B.heap.size [[h], [j], [x]] ∧ Z.heap[h]? = some (.cells #[Vi 0, Vi 0] 37 (0, 0)) ∧ Z.heap[j]? = some (.cells #[Vi g.1.1, Vi g.1.2, Vi g.2.1.1, Vi g.2.1.2, .bool g.2.2.1, .bool g.2.2.2] 123 (0, 0)) ∧ Z.heap[x]? = some (.cells #[Vi t, Vi i] 37 (0, 0))) ?_ ?_))
 · refine c_drawnp [] [(0, false), (1, false), (2, false), (4, false), (5, false), (6, false)] (.alt 3 false (opsThen [] (.alt 7 false (opsThen [(8, false), (9, false), (10, true)] .stop) (.alt 9 false (opsThen [(7, false), (8, false), (10, true)] .stop) .none_))) (.alt 9 false (opsThen [(3, false), (7, false), (8, false), (10, true)] .stop) .none_)) _ (by kernel_rfl) R ?_
   have b := (Ev.drew al).box b nn
   have e := (Ev.drew al).box e nn
   have c := c.ev (Ev.drew al)
   have a := a.ext (Ev.drew al)
   refine Yf (Vp j 0) (Vp j 2) R (Rf tfld123_1 _ _) (Yg j 2 2 (Vi g.2.1.1) R R (Rf tfld37_0 _ _) tcell3 e nn R (Yf (Vp j 0) (Vp j 2) R (Rf tfld123_1 _ _) (Yg j 2 3 (Vi g.2.1.2) R R (Rf tfld37_1 _ _) tcell3 e nn R (Xe R (t_alt _ R ?_ ?_)))))
   · obtain ⟨K, w, d⟩ := Bs d
     have u := bowl_root_w g.2.1.1 _ (al).drew w
     refine Xc 28 #[] #[] _ _ R R R R u ?_
     rintro J aX ⟨rfl, N⟩
     refine ⟨.inr N, ?_⟩
     have b := N.box b nn
     have e := N.box e nn
     have c := c.ev N
     have a := a.ext N
     refine Xe R (t_alt _ R ?_ ?_)
     · obtain ⟨F, w, d⟩ := Bs d
       have u := bowl_root_w g.2.1.2 _ aX w
       refine Xc 28 #[] #[] _ _ R R R R u ?_
       rintro J a3 ⟨rfl, A⟩
       refine ⟨.inr A, ?_⟩
       have b := A.box b nn
       have e := A.box e nn
       have c := c.ev A
       have a := a.ext A
       refine Xd (vs := [(0, Vi K), (1, Vi F)]) (.agg #[Vi K, Vi F]) R R R (fun _ _ => by kernel_rfl) ?_
       refine Xa (z := .agg #[Vi 0, Vi 0]) R R (by kernel_rfl) (fun aB bA a2 ag aq bJ => ?_)
       replace ag : bA.heap[aB]? = some (.cells #[Vi 0, Vi 0] 37 (0, 0)) := ag
       refine ⟨.inr aq, ?_⟩
       have b := aq.box b nn
       have e := aq.box e nn
       have c := c.box aq a2 ag
       have f := f.box a.size a2
       have a := a.ext aq
       obtain ⟨ay, au, ap, s⟩ := Sa [Vi K, Vi F] tagg37 ag R R R
       refine Ys ay _ _ R au (I1 ?_)
       have b := s.box b (c.apart 4 0 R R R _ mem1)
       have e := s.box e (c.apart 1 0 R R R _ mem1)
       have c := c.ev s
       have a := a.then s (fun l m => .inr (f.at 0 R l m))
       have ag := ap
       refine Xe R (t_stop ?_)
       have Q := c.pk [4, 1, 0, 6] [[h], [j], [aB], k] R
       have c := Q
       have f := f.pk [4, 1, 0] [[h], [j], [aB]] R
       exact Kt ⟨(K, F, aB), ⟨R, R, R, T0⟩, d, a, c, f, b, e, ag⟩
     refine t_alt _ R ?_ ?_
     · refine Xa (z := .agg #[Vi 0, Vi 0]) R R (by kernel_rfl) (fun aA aE a1 D O bI => ?_)
       replace D : aE.heap[aA]? = some (.cells #[Vi 0, Vi 0] 37 (0, 0)) := D
       refine ⟨.inr O, ?_⟩
       have b := O.box b nn
       have e := O.box e nn
       have c := c.box O a1 D
       have f := f.box a.size a1
       have a := a.ext O
       obtain ⟨G, w, d⟩ := Bs d
       have u := bowl_root_w g.2.1.2 _ aE w
       refine Xc 28 #[] #[] _ _ R R R R u ?_
       rintro J bB ⟨rfl, v⟩
       refine ⟨.inr v, ?_⟩
       have b := v.box b nn
       have e := v.box e nn
       have D := v.box D nn
       have c := c.ev v
       have a := a.ext v
       refine Xd (vs := [(0, Vi K), (1, Vi G)]) (.agg #[Vi K, Vi G]) R R R (fun _ _ => by kernel_rfl) ?_
       obtain ⟨ay, au, ap, s⟩ := Sa [Vi K, Vi G] tagg37 D R R R
       refine Ys ay _ _ R au (I1 ?_)
       have b := s.box b (c.apart 4 0 R R R _ mem1)
       have e := s.box e (c.apart 1 0 R R R _ mem1)
       have c := c.ev s
       have a := a.then s (fun l m => .inr (f.at 0 R l m))
       have D := ap
       refine Xe R (t_stop ?_)
       have Q := c.pk [4, 1, 0, 6] [[h], [j], [aA], k] R
       have c := Q
       have f := f.pk [4, 1, 0] [[h], [j], [aA]] R
       exact Kt ⟨(K, G, aA), ⟨R, R, R, T0⟩, d, a, c, f, b, e, D⟩
     exact t_none
   refine t_alt _ R ?_ ?_
   · refine Xa (z := .agg #[Vi 0, Vi 0]) R R (by kernel_rfl) (fun az aD a0 y I bH => ?_)
     replace y : aD.heap[az]? = some (.cells #[Vi 0, Vi 0] 37 (0, 0)) := y
     refine ⟨.inr I, ?_⟩
     have b := I.box b nn
     have e := I.box e nn
     have c := c.box I a0 y
     have f := f.box a.size a0
     have a := a.ext I
     obtain ⟨F, w, d⟩ := Bs d
     have u := bowl_root_w g.2.1.1 _ aD w
     refine Xc 28 #[] #[] _ _ R R R R u ?_
     rintro J a3 ⟨rfl, A⟩
     refine ⟨.inr A, ?_⟩
     have b := A.box b nn
     have e := A.box e nn
     have y := A.box y nn
     have c := c.ev A
     have a := a.ext A
     obtain ⟨G, w, d⟩ := Bs d
     have u := bowl_root_w g.2.1.2 _ a3 w
     refine Xc 28 #[] #[] _ _ R R R R u ?_
     rintro J bB ⟨rfl, v⟩
     refine ⟨.inr v, ?_⟩
     have b := v.box b nn
     have e := v.box e nn
     have y := v.box y nn
     have c := c.ev v
     have a := a.ext v
     refine Xd (vs := [(0, Vi F), (1, Vi G)]) (.agg #[Vi F, Vi G]) R R R (fun _ _ => by kernel_rfl) ?_
     obtain ⟨ay, au, ap, s⟩ := Sa [Vi F, Vi G] tagg37 y R R R
     refine Ys ay _ _ R au (I1 ?_)
     have b := s.box b (c.apart 4 0 R R R _ mem1)
     have e := s.box e (c.apart 1 0 R R R _ mem1)
     have c := c.ev s
     have a := a.then s (fun l m => .inr (f.at 0 R l m))
     have y := ap
     refine Xe R (t_stop ?_)
     have Q := c.pk [4, 1, 0, 6] [[h], [j], [az], k] R
     have c := Q
     have f := f.pk [4, 1, 0] [[h], [j], [az]] R
     exact Kt ⟨(F, G, az), ⟨R, R, R, T0⟩, d, a, c, f, b, e, y⟩
   exact t_none
 rintro ⟨t, i, x⟩ am bO ⟨d, a, c, f, b, e, L⟩
 refine Cq (Cs (Yg x 0 1 (Vi i) R R (Rf tfld37_1 _ _) tcell3 L nn R (Yg x 0 1 (Vi i) R R (Rf tfld37_1 _ _) tcell3 L nn R (Xu 1 [(59, Vi (i64.wrap (i * i)))] (Yf (Vp j 0) (Vp j 2) R (Rf tfld123_1 _ _) (Yg j 2 3 (Vi g.2.1.2) R R (Rf tfld37_1 _ _) tcell3 e nn R ?_))))))
 refine Xu 1 [(63, Bd ((i64.wrap (i * i)) < g.2.1.2))] (Xk (Cn [(6, Vp h 0), (12, Vp x 0), (63, Bd ((i64.wrap (i * i)) < g.2.1.2))] (fun am => ?_)))
 refine Ci (decide ((i64.wrap (i * i)) < g.2.1.2)) R d (fun d => ?_) (fun d => ?_)
 · refine Cp (Yg x 0 1 (Vi i) R R (Rf tfld37_1 _ _) tcell3 L nn R (Xu 1 [(66, Vi (i64.wrap (i + 1)))] (Yf (Vp x 0) (Vp x 1) R (Rf tfld37_1 _ _) ?_)))
   obtain ⟨aD, bq, y, I⟩ := store_box 1 (Vi (i64.wrap (i + 1))) #[Vi t, Vi (i64.wrap (i + 1))] tcell3 L R R R
   refine Ys aD _ _ R bq (I1 ?_)
   have b := I.box b (c.apart 0 2 R R R _ mem1)
   have a := a.then I (fun l m => .inr (f.at 2 R l m))
   have L := y
   refine Xk (Cs (Yl _ _ R (Ra 0 [Vi t, Vi (i64.wrap (i + 1))] tagg37 L nn R) ?_))
   obtain ⟨aX, br, bc, N⟩ := Sa [Vi t, Vi (i64.wrap (i + 1))] tagg37 b R R R
   refine Ys aX _ _ R br (I1 ?_)
   have a := a.then N (fun l m => .inr (f.at 0 R l m))
   have b := bc
   refine Xu 1 [(7, Vi 0)] (Xk (Cr (Rr (Rv [.agg #[Vi t, Vi (i64.wrap (i + 1))], Vi 0] ⟨⟨_, R, Lv (Ra (Mo := []) 0 [Vi t, Vi (i64.wrap (i + 1))] tagg37 b nn R)⟩, R, T0⟩ ?_))))
   obtain rfl := Sj d
   exact ⟨R, a⟩
 refine Ck (Kt (Cs (Yl _ _ R (Ra 0 [Vi t, Vi i] tagg37 L nn R) ?_)))
 obtain ⟨aE, bs, D, O⟩ := Sa [Vi t, Vi i] tagg37 b R R R
 refine Ys aE _ _ R bs (I1 ?_)
 have a := a.then O (fun l m => .inr (f.at 0 R l m))
 have b := D
 refine Xu 1 [(7, Vi 0)] (Xk (Cr (Rr (Rv [.agg #[Vi t, Vi i], Vi 0] ⟨⟨_, R, Lv (Ra (Mo := []) 0 [Vi t, Vi i] tagg37 b nn R)⟩, R, T0⟩ ?_))))
 obtain rfl := Sj d
 exact ⟨R, a⟩
end Go.Proofs.YtfhkfjankgikcaaGreat
