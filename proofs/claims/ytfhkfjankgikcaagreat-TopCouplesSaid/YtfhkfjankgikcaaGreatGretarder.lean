
/- Walks, printed by program: each function returns what the partial function of the same name returns. Conditions: those of each theorem. -/
import Derived.Test.YtfhkfjankgikcaaGreatGT
import Derived.Test.YtfhkfjankgikcaaGreatGrunoff
set_option linter.unusedVariables false
set_option linter.unusedSimpArgs false
set_option maxRecDepth 4000
namespace Go.Proofs.YtfhkfjankgikcaaGreat
open Go Go.V Go.Proofs Go.IntKind
def retarder_Valid (a : Int) (b : Int) : Option Bool :=
(if (decide (a ≥ 0)) = true then
(if (decide (a ≤ b)) = true then
some (decide (b ≤ 20000))
else
some false)
else
some false)
theorem retarder_Valid_w (b a j g) (c : retarder_Valid b a = some j) : CallVC Tryz.prog 36 [.agg #[Vi b, Vi a]] g fun m n => m = .bool j ∧ Ev [] g n := by
 refine Cv hmx Tryz.func36 (by kernel_rfl) R (rs := [.tmp 2]) R (by kernel_rfl) (args := [.agg #[Vi b, Vi a]]) R ?_
 have f : Ev [] g g := Ev.refl _ _
 have q : MS g [[]] := ⟨List.pairwise_singleton _ _, fun t i p k => by simp only [List.mem_singleton] at i; subst i; cases k⟩
 refine Cs (Yb _ R (fun e o r d l s => ?_))
 replace d : o.heap[e]? = some (.cells #[Vi b, Vi a] 42 (0, 0)) := d
 refine I1 ?_
 have f := f.ext l
 refine Xu 1 [(2, .bool false)] (Xk (Cs (Yg e 0 0 (Vi b) R R (Rf tfld42_0 _ _) tcell3 d nn R (Xu 2 [(5, Bd (b ≥ 0)), (6, Bd (b ≥ 0))] (Xw 6 (decide (b ≥ 0)) R c (fun c => ?_) (fun c => ?_))))))
 · refine Yg e 0 0 (Vi b) R R (Rf tfld42_0 _ _) tcell3 d nn R (Yg e 0 1 (Vi a) R R (Rf tfld42_1 _ _) tcell3 d nn R (Xu 3 [(11, Bd (b ≤ a)), (12, Bd (b ≤ a)), (13, Bd (b ≤ a))] (Xw 13 (decide (b ≤ a)) R c (fun c => ?_) (fun c => ?_))))
   · refine Yg e 0 1 (Vi a) R R (Rf tfld42_1 _ _) tcell3 d nn R (Xu 3 [(16, Bd (a ≤ 20000)), (17, Bd (a ≤ 20000)), (2, Bd (a ≤ 20000))] (Xk (Cn [(2, Bd (a ≤ 20000))] (fun h => ?_))))
     refine Cr (Rr (Rv [Bd (a ≤ 20000)] ⟨R, T0⟩ ?_))
     obtain rfl := Sj c
     exact ⟨R, f⟩
   refine Xu 5 [(14, U0), (15, U0), (16, U0), (17, .bool false), (2, .bool false)] (Xk (Cn [(2, .bool false)] (fun h => ?_)))
   refine Cr (Rr (Rv [.bool false] ⟨R, T0⟩ ?_))
   obtain rfl := Sj c
   exact ⟨R, f⟩
 refine Xu 12 [(7, U0), (8, U0), (9, U0), (10, U0), (11, U0), (12, .bool false), (13, .bool false), (14, U0), (15, U0), (16, U0), (17, .bool false), (2, .bool false)] (Xk (Cn [(2, .bool false)] (fun h => ?_)))
 refine Cr (Rr (Rv [.bool false] ⟨R, T0⟩ ?_))
 obtain rfl := Sj c
 exact ⟨R, f⟩
def retarder_last (c : List (Int × Int × Int × Int × Int)) (d : Int) (e : Int) (f : List (Int × Int)) (g : Int) (h : List Int) : Option (((Int × Int) × (Int × Int) × Bool × Bool) × Int) :=
((runoff_Pass c d e f g h).bind fun b =>
(if (b.2 != 0) = true then
some (((0, 0), (0, 0), false, false), b.2)
else
((idx b.1 (i64.wrap (((b.1).length : Int) - 1))).bind fun a =>
some (((a.1.1, a.1.2), (a.2.1.1, a.2.1.2), a.2.2.1, a.2.2.2), 0))))
theorem retarder_last_w (A C v w x p s m y q t o j g h) (D : MS g [h]) (E : SlR (eProd eI (eIt4)) g (fl [h]) A C v) (F : SlR (eProd eI eI) g (fl [h]) p s m) (G : SlR eI g (fl [h]) q t o) (d : retarder_last v w x m y o = some j) : CallVC Tryz.prog 38 [Vl A v C, .agg #[Vi w, Vi x, Vl p m s, Vi y, Vl q o t]] g fun S an => S = .tuple #[.agg #[Vi j.1.1.1, Vi j.1.1.2, Vi j.1.2.1.1, Vi j.1.2.1.2, .bool j.1.2.2.1, .bool j.1.2.2.2], Vi j.2] ∧ Ev [] g an := by
 refine Cv hmx Tryz.func38 (by kernel_rfl) R (rs := [.cell 4 123, .tmp 5]) R (by kernel_rfl) (args := [Vl A v C, .agg #[Vi w, Vi x, Vl p m s, Vi y, Vl q o t]]) R ?_
 have c : Ev [] g g := Ev.refl _ _
 have i : FR g.heap.size [] := FR.nil _
 refine Cs (Yb _ R (fun B aq N u K aw => ?_))
 replace u : aq.heap[B]? = some (.cells #[Vi w, Vi x, Vl p m s, Vi y, Vl q o t] 40 (0, 0)) := u
 refine I1 ?_
 have l := Stp.box (ls := [h]) K N
 have E := E.step l
 have F := F.step l
 have G := G.step l
 have D := D.box K N u
 have i := i.box c.size N
 have c := c.ext K
 refine Xa (z := .agg #[Vi 0, Vi 0, Vi 0, Vi 0, .bool false, .bool false]) R R (by kernel_rfl) (fun r U O e H ax => ?_)
 replace e : U.heap[r]? = some (.cells #[Vi 0, Vi 0, Vi 0, Vi 0, .bool false, .bool false] 123 (0, 0)) := e
 refine I1 ?_
 have l := Stp.box (ls := [[B], h]) H O
 have E := E.step l
 have F := F.step l
 have G := G.step l
 have u := H.box u nn
 have D := D.box H O e
 have i := i.box c.size O
 have c := c.ext H
 refine Xu 1 [(5, Vi 0)] (Xk (Cs (Xu 1 [(9, Vl A v C)] (Yl _ _ R (Ra 0 [Vi w, Vi x, Vl p m s, Vi y, Vl q o t] tagg40 u nn R) ?_))))
 obtain ⟨b, al, d⟩ := Bs d
 have ad := runoff_Pass_w A C v w x p s m y q t o _ U (fl [[r], [B], h]) (MS.fold (P := []) D) (E.sub fl1) (F.sub fl1) (G.sub fl1) al
 refine Xc 27 #[] #[] _ _ R R R R ad ?_
 rintro S ay ⟨f, k, rfl, Q, av, ag, L⟩
 refine I1 ?_
 have e := Q.box e nn
 have ah := FR.call0 [Bk f, [r], [B]] c.size ag i R
 have c := c.ext Q
 have i := ah
 have L := OwnS.plain (M' := fl [Bk f, [r], [B], h]) (Pp (Pp (Pi _) (Pi _)) (Pp (Pp (Pi _) (Pi _)) (Pp plain_bool plain_bool))) L
 refine Xu 5 [(8, .tuple #[Vl f b.1 k, Vi b.2]), (12, Vl f b.1 k), (13, Vi b.2), (6, Vl f b.1 k), (7, Vi b.2)] (Xk (Cq (Cs (Xu 2 [(14, Vi b.2), (15, .bool (b.2 != 0))] (Xk (Ci (b.2 != 0) R d (fun d => ?_) (fun d => ?_)))))))
 · refine Cs (Xd (vs := []) (.agg #[Vi 0, Vi 0, Vi 0, Vi 0, .bool false, .bool false]) R R R (fun _ _ => by kernel_rfl) ?_)
   refine Xu 1 [(17, Vi b.2)] ?_
   obtain ⟨ao, ai, aa, ae⟩ := Sa [Vi 0, Vi 0, Vi 0, Vi 0, .bool false, .bool false] tagg123 e R R R
   refine Ys ao _ _ R ai (I1 ?_)
   have c := c.then ae (fun I J => .inr (i.at 1 R I J))
   have e := aa
   refine Xu 1 [(5, Vi b.2)] (Xk (Cn [(4, Vp r 0), (5, Vi b.2)] (fun X => ?_)))
   refine Cr (Kr (Rr (Rv [.agg #[Vi 0, Vi 0, Vi 0, Vi 0, .bool false, .bool false], Vi b.2] ⟨⟨_, R, Lv (Ra (Mo := []) 0 [Vi 0, Vi 0, Vi 0, Vi 0, .bool false, .bool false] tagg123 e nn R)⟩, R, T0⟩ ?_)))
   obtain rfl := Sj d
   exact ⟨R, c⟩
 refine Ck (Kt (Cn [(4, Vp r 0), (6, Vl f b.1 k)] (fun X => ?_)))
 refine Cs (Xu 2 [(18, Vl f b.1 k), (19, Vl f b.1 k)] (Xn (vs := [Vl f b.1 k]) (Vi ((b.1).length : Int)) R R R (Rl tsl119 _ _ _ _ _) (Xu 1 [(21, Vi (i64.wrap (((b.1).length : Int) - 1)))] ?_)))
 obtain ⟨a, am, d⟩ := Bs d
 obtain ⟨Y, ar, au, aj, ac, Z⟩ := Oi (Mo := []) tsl119 L am
 obtain ⟨_, _, rfl, ⟨_, _, rfl, rfl, rfl⟩, ⟨_, _, rfl, ⟨_, _, rfl, rfl, rfl⟩, ⟨_, _, rfl, rfl, rfl⟩⟩⟩ := Z
 refine Yi _ _ _ R aj (Yl ((Px Y ((Int.toNat (i64.wrap (((b.1).length : Int) - 1))) * (eProd (eProd eI eI) (eProd (eProd eI eI) (eProd eBool eBool))).n))) (.agg #[Vi a.1.1, Vi a.1.2, Vi a.2.1.1, Vi a.2.1.2, .bool a.2.2.1, .bool a.2.2.2]) R (reads_agg tagg123 ac (fun _ d => by cases d)) ?_)
 obtain ⟨ap, ak, ab, af⟩ := Sa [Vi a.1.1, Vi a.1.2, Vi a.2.1.1, Vi a.2.1.2, .bool a.2.2.1, .bool a.2.2.2] tagg123 e R R R
 refine Ys ap _ _ R ak (I1 ?_)
 have c := c.then af (fun I J => .inr (i.at 1 R I J))
 have e := ab
 refine Xu 1 [(5, Vi 0)] (Xk (Cr (Rr (Rv [.agg #[Vi a.1.1, Vi a.1.2, Vi a.2.1.1, Vi a.2.1.2, .bool a.2.2.1, .bool a.2.2.2], Vi 0] ⟨⟨_, R, Lv (Ra (Mo := []) 0 [Vi a.1.1, Vi a.1.2, Vi a.2.1.1, Vi a.2.1.2, .bool a.2.2.1, .bool a.2.2.2] tagg123 e nn R)⟩, R, T0⟩ ?_))))
 obtain rfl := Sj d
 exact ⟨R, c⟩
def retarder_enough (e : Int) (f : Int) (b : Int) (g : Int) (c : Bool) (d : Bool) (a : Int) : Option Bool :=
(if (!c) = true then
(if (!d) = true then
some (decide (b ≥ (i64.wrap (a * a))))
else
some false)
else
some false)
theorem retarder_enough_w (j k b l e d a o i) (c : retarder_enough j k b l e d a = some o) : CallVC Tryz.prog 41 [.agg #[Vi j, Vi k, Vi b, Vi l, .bool e, .bool d], Vi a] i fun r s => r = .bool o ∧ Ev [] i s := by
 refine Cv hmx Tryz.func41 (by kernel_rfl) R (rs := [.tmp 4]) R (by kernel_rfl) (args := [.agg #[Vi j, Vi k, Vi b, Vi l, .bool e, .bool d], Vi a]) R ?_
 have h : Ev [] i i := Ev.refl _ _
 have v : MS i [[]] := ⟨List.pairwise_singleton _ _, fun y n u p => by simp only [List.mem_singleton] at n; subst n; cases p⟩
 refine Cs (Yb _ R (fun f t w g q x => ?_))
 replace g : t.heap[f]? = some (.cells #[Vi j, Vi k, Vi b, Vi l, .bool e, .bool d] 123 (0, 0)) := g
 refine I1 ?_
 have h := h.ext q
 refine Xu 1 [(4, .bool false)] (Xk (Cs (Yg f 0 4 (.bool e) R R (Rf tfld123_2 _ _) tcell4 g nn R (Xu 2 [(7, .bool (!e)), (8, .bool (!e))] (Xw 8 (!e) R c (fun c => ?_) (fun c => ?_))))))
 · refine Yg f 0 5 (.bool d) R R (Rf tfld123_3 _ _) tcell4 g nn R (Xu 3 [(11, .bool (!d)), (12, .bool (!d)), (13, .bool (!d))] (Xw 13 (!d) R c (fun c => ?_) (fun c => ?_)))
   · refine Yf (Vp f 0) (Vp f 2) R (Rf tfld123_1 _ _) (Yg f 2 2 (Vi b) R R (Rf tfld37_0 _ _) tcell3 g nn R (Xu 6 [(17, Vi a), (18, Vi a), (19, Vi (i64.wrap (a * a))), (20, Bd (b ≥ (i64.wrap (a * a)))), (21, Bd (b ≥ (i64.wrap (a * a)))), (4, Bd (b ≥ (i64.wrap (a * a))))] (Xk (Cn [(4, Bd (b ≥ (i64.wrap (a * a))))] (fun m => ?_)))))
     refine Cr (Rr (Rv [Bd (b ≥ (i64.wrap (a * a)))] ⟨R, T0⟩ ?_))
     obtain rfl := Sj c
     exact ⟨R, h⟩
   refine Xu 9 [(14, U0), (15, U0), (16, U0), (17, U0), (18, U0), (19, U0), (20, U0), (21, .bool false), (4, .bool false)] (Xk (Cn [(4, .bool false)] (fun m => ?_)))
   refine Cr (Rr (Rv [.bool false] ⟨R, T0⟩ ?_))
   obtain rfl := Sj c
   exact ⟨R, h⟩
 refine Xu 14 [(9, U0), (10, U0), (11, U0), (12, .bool false), (13, .bool false), (14, U0), (15, U0), (16, U0), (17, U0), (18, U0), (19, U0), (20, U0), (21, .bool false), (4, .bool false)] (Xk (Cn [(4, .bool false)] (fun m => ?_)))
 refine Cr (Rr (Rv [.bool false] ⟨R, T0⟩ ?_))
 obtain rfl := Sj c
 exact ⟨R, h⟩
def retarder_Window_L56 (g : List (Int × Int × Int × Int × Int)) (h : Int) (i : Int) (j : List (Int × Int)) (k : Int) (d : Int) (e : Int) (l : (List Int) × Int × Int) : Option (Step ((List Int) × Int × Int) (Int × (List Int))) :=
match l with
| (c, b, a) =>
(if (decide (b < a)) = true then
((idx c d).bind fun m =>
((retarder_last g h i j k (c.set (Int.toNat d) (i64.wrap (Int.tdiv (i64.wrap (b + a)) 2)))).bind fun f =>
(if (!f.1.2.2.2) = true then
(if (decide (f.1.2.1.2 > (i64.wrap (e * e)))) = true then
some (.next ((c.set (Int.toNat d) (i64.wrap (Int.tdiv (i64.wrap (b + a)) 2))), b, i64.wrap (Int.tdiv (i64.wrap (b + a)) 2)))
else
some (.next ((c.set (Int.toNat d) (i64.wrap (Int.tdiv (i64.wrap (b + a)) 2))), i64.wrap ((i64.wrap (Int.tdiv (i64.wrap (b + a)) 2)) + 1), a)))
else
some (.next ((c.set (Int.toNat d) (i64.wrap (Int.tdiv (i64.wrap (b + a)) 2))), i64.wrap ((i64.wrap (Int.tdiv (i64.wrap (b + a)) 2)) + 1), a)))))
else
some (.done (b, c)))
def retarder_Window_L41 (f : List (Int × Int × Int × Int × Int)) (g : Int) (h : Int) (i : List (Int × Int)) (j : Int) (e : Int) (k : Int) (l : (List Int) × Int × Int) : Option (Step ((List Int) × Int × Int) (Int × (List Int))) :=
match l with
| (d, a, b) =>
(if (decide (a < b)) = true then
((idx d e).bind fun n =>
((retarder_last f g h i j (d.set (Int.toNat e) (i64.wrap (Int.tdiv (i64.wrap (a + b)) 2)))).bind fun c =>
((retarder_enough c.1.1.1 c.1.1.2 c.1.2.1.1 c.1.2.1.2 c.1.2.2.1 c.1.2.2.2 k).bind fun m =>
(if m = true then
some (.next ((d.set (Int.toNat e) (i64.wrap (Int.tdiv (i64.wrap (a + b)) 2))), a, i64.wrap (Int.tdiv (i64.wrap (a + b)) 2)))
else
some (.next ((d.set (Int.toNat e) (i64.wrap (Int.tdiv (i64.wrap (a + b)) 2))), i64.wrap ((i64.wrap (Int.tdiv (i64.wrap (a + b)) 2)) + 1), b))))))
else
some (.done (a, d)))
def retarder_Window (d : List (Int × Int × Int × Int × Int)) (e : Int) (f : Int) (g : List (Int × Int)) (h : Int) (b : List Int) (a : Int) (k : Int) (l : Int) : Option ((Int × Int) × Int) :=
((retarder_Valid k l).bind fun o =>
(if (!o) = true then
some ((0, 0), 1)
else
(if (decide (a < 0)) = true then
some ((0, 0), 2)
else
(if (decide (a ≥ ((b).length : Int))) = true then
some ((0, 0), 2)
else
(if ([] : List Int).length + b.length ≤ 4294967296 then
((idx (([] : List Int) ++ b) a).bind fun q =>
((retarder_last d e f g h ((([] : List Int) ++ b).set (Int.toNat a) 0)).bind fun m =>
(if (m.2 != 0) = true then
some ((0, 0), m.2)
else
((loop (retarder_Window_L41 d e f g h a k) (((([] : List Int) ++ b).set (Int.toNat a) 0), 0, 20001)).bind fun c => match c with
| (i, n) => ((loop (retarder_Window_L56 d e f g h a l) (n, 0, 20001)).bind fun c => match c with
| (j, p) => (if (decide (i > (i64.wrap (j - 1)))) = true then
some ((0, 0), 15)
else
some ((i, i64.wrap (j - 1)), 0)))))))
else none)))))
theorem retarder_Window_w (ag ah X ad ae Y ab S af aZ a0 O I ar J bi ai o) (a : MS ai [o]) (k : SlR (eProd eI (eIt4)) ai (fl [o]) ag ah X) (m : SlR (eProd eI eI) ai (fl [o]) Y ab S) (ac : SlR eI ai (fl [o]) aZ a0 O) (q : retarder_Window X ad ae S af O I ar J = some bi) : CallVC Tryz.prog 23 [Vl ag X ah, .agg #[Vi ad, Vi ae, Vl Y S ab, Vi af, Vl aZ O a0], Vi I, .agg #[Vi ar, Vi J]] ai fun be K => be = .tuple #[.agg #[Vi bi.1.1, Vi bi.1.2], Vi bi.2] ∧ Ev [] ai K := by
 refine Cv hmx Tryz.func23 (by kernel_rfl) R (rs := [.cell 8 37, .tmp 9]) R (by kernel_rfl) (args := [Vl ag X ah, .agg #[Vi ad, Vi ae, Vl Y S ab, Vi af, Vl aZ O a0], Vi I, .agg #[Vi ar, Vi J]]) R ?_
 have g : Ev [] ai ai := Ev.refl _ _
 have v : FR ai.heap.size [] := FR.nil _
 refine Cs (Yb _ R (fun e c3 bu r bn dx => ?_))
 replace r : c3.heap[e]? = some (.cells #[Vl ag X ah] 32 (0, 0)) := r
 refine I1 ?_
 have b := Stp.box (ls := [o]) bn bu
 have k := k.step b
 have m := m.step b
 have ac := ac.step b
 have a := a.box bn bu r
 have v := v.box g.size bu
 have g := g.ext bn
 refine Yb _ R (fun d c9 bz p bh dB => ?_)
 replace p : c9.heap[d]? = some (.cells #[Vi ad, Vi ae, Vl Y S ab, Vi af, Vl aZ O a0] 40 (0, 0)) := p
 refine I1 ?_
 have b := Stp.box (ls := [[e], o]) bh bz
 have k := k.step b
 have m := m.step b
 have ac := ac.step b
 have r := bh.box r nn
 have a := a.box bh bz p
 have v := v.box g.size bz
 have g := g.ext bh
 refine Yb _ R (fun f df bB t bf dD => ?_)
 replace t : df.heap[f]? = some (.cells #[Vi I] 3 (0, 0)) := t
 refine I1 ?_
 have b := Stp.box (ls := [[d], [e], o]) bf bB
 have k := k.step b
 have m := m.step b
 have ac := ac.step b
 have r := bf.box r nn
 have p := bf.box p nn
 have a := a.box bf bB t
 have v := v.box g.size bB
 have g := g.ext bf
 refine Yb _ R (fun c cN bp u bb ds => ?_)
 replace u : cN.heap[c]? = some (.cells #[Vi ar, Vi J] 42 (0, 0)) := u
 refine I1 ?_
 have b := Stp.box (ls := [[f], [d], [e], o]) bb bp
 have k := k.step b
 have m := m.step b
 have ac := ac.step b
 have r := bb.box r nn
 have p := bb.box p nn
 have t := bb.box t nn
 have a := a.box bb bp u
 have v := v.box g.size bp
 have g := g.ext bb
 refine Xa (z := .agg #[Vi 0, Vi 0]) R R (by kernel_rfl) (fun i bJ bq n a6 dt => ?_)
 replace n : bJ.heap[i]? = some (.cells #[Vi 0, Vi 0] 37 (0, 0)) := n
 refine I1 ?_
 have b := Stp.box (ls := [[c], [f], [d], [e], o]) a6 bq
 have k := k.step b
 have m := m.step b
 have ac := ac.step b
 have r := a6.box r nn
 have p := a6.box p nn
 have t := a6.box t nn
 have u := a6.box u nn
 have a := a.box a6 bq n
 have v := v.box g.size bq
 have g := g.ext a6
 refine Xu 1 [(9, Vi 0)] (Xk (Cq (Cs (Yl _ _ R (Ra 0 [Vi ar, Vi J] tagg42 u nn R) ?_))))
 obtain ⟨bQ, aY, q⟩ := Bs q
 have aS := retarder_Valid_w ar J _ bJ aY
 refine Xc 36 #[] #[] _ _ R R R R aS ?_
 rintro be bE ⟨rfl, a1⟩
 refine I1 ?_
 have b := Stp.ext (ls := [[i], [c], [f], [d], [e], o]) a1
 have k := k.step b
 have m := m.step b
 have ac := ac.step b
 have r := a1.box r nn
 have p := a1.box p nn
 have t := a1.box t nn
 have u := a1.box u nn
 have n := a1.box n nn
 have a := a.ev a1
 have g := g.ext a1
 refine Xu 1 [(17, .bool (!bQ))] (Xk (Ci (!bQ) R q (fun q => ?_) (fun q => ?_)))
 · refine Cs (Xd (vs := []) (.agg #[Vi 0, Vi 0]) R R R (fun _ _ => by kernel_rfl) ?_)
   obtain ⟨cO, cq, b2, cf⟩ := Sa [Vi 0, Vi 0] tagg37 n R R R
   refine Ys cO _ _ R cq (I1 ?_)
   have g := g.then cf (fun F G => .inr (v.at 0 R F G))
   have n := b2
   refine Xu 1 [(9, Vi 1)] (Xk (Cr (Kr (Rr (Rv [.agg #[Vi 0, Vi 0], Vi 1] ⟨⟨_, R, Lv (Ra (Mo := []) 0 [Vi 0, Vi 0] tagg37 n nn R)⟩, R, T0⟩ ?_)))))
   obtain rfl := Sj q
   exact ⟨R, g⟩
 refine Ck (Kt (Cq (Cs (Yl _ (Vi I) R (Rb tcell3 t nn 0 _ R) (Xu 2 [(20, Bd (I < 0)), (21, Bd (I < 0))] (Xw 21 (decide (I < 0)) R q (fun q => ?_) (fun q => ?_)))))))
 · refine Xu 6 [(22, U0), (23, U0), (24, U0), (25, U0), (26, U0), (27, .bool true)] (Xk (Cn [(4, Vp e 0), (5, Vp d 0), (6, Vp f 0), (7, Vp c 0), (8, Vp i 0), (27, .bool true)] (fun L => ?_)))
   refine c_true R (Cs (Xd (vs := []) (.agg #[Vi 0, Vi 0]) R R R (fun _ _ => by kernel_rfl) ?_))
   obtain ⟨cQ, cr, b3, cg⟩ := Sa [Vi 0, Vi 0] tagg37 n R R R
   refine Ys cQ _ _ R cr (I1 ?_)
   have g := g.then cg (fun F G => .inr (v.at 0 R F G))
   have n := b3
   refine Xu 1 [(9, Vi 2)] (Xk (Cr (Kr (Rr (Rv [.agg #[Vi 0, Vi 0], Vi 2] ⟨⟨_, R, Lv (Ra (Mo := []) 0 [Vi 0, Vi 0] tagg37 n nn R)⟩, R, T0⟩ ?_)))))
   obtain rfl := Sj q
   exact ⟨R, g⟩
 refine Yl _ (Vi I) R (Rb tcell3 t nn 0 _ R) (Yg d 0 4 (Vl aZ O a0) R R (Rf tfld40_3 _ _) tcell22 p nn R (Xn (vs := [Vl aZ O a0]) (Vi ((O).length : Int)) R R R (Rl tsl22 _ _ _ _ _) (Xu 2 [(26, Bd (I ≥ ((O).length : Int))), (27, Bd (I ≥ ((O).length : Int)))] (Xk (Cn [(4, Vp e 0), (5, Vp d 0), (6, Vp f 0), (7, Vp c 0), (8, Vp i 0), (27, Bd (I ≥ ((O).length : Int)))] (fun L => ?_))))))
 refine Ci (decide (I ≥ ((O).length : Int))) R q (fun q => ?_) (fun q => ?_)
 · refine Cs (Xd (vs := []) (.agg #[Vi 0, Vi 0]) R R R (fun _ _ => by kernel_rfl) ?_)
   obtain ⟨cS, cs, b4, ch⟩ := Sa [Vi 0, Vi 0] tagg37 n R R R
   refine Ys cS _ _ R cs (I1 ?_)
   have g := g.then ch (fun F G => .inr (v.at 0 R F G))
   have n := b4
   refine Xu 1 [(9, Vi 2)] (Xk (Cr (Kr (Rr (Rv [.agg #[Vi 0, Vi 0], Vi 2] ⟨⟨_, R, Lv (Ra (Mo := []) 0 [Vi 0, Vi 0] tagg37 n nn R)⟩, R, T0⟩ ?_)))))
   obtain rfl := Sj q
   exact ⟨R, g⟩
 refine Ck (Kt (Cs (Yg d 0 4 (Vl aZ O a0) R R (Rf tfld40_3 _ _) tcell22 p nn R ?_)))
 have b := Stp.push (ls := [[i], [c], [f], [d], [e], o]) (l := Bk none) (Ev.refl [] bE) (fun _ q => by cases q) (fun _ q => by cases q)
 have k := k.step b
 have m := m.step b
 have ac := ac.step b
 have r := (Ev.refl [] _).box r nn
 have p := (Ev.refl [] _).box p nn
 have t := (Ev.refl [] _).box t nn
 have u := (Ev.refl [] _).box u nn
 have n := (Ev.refl [] _).box n nn
 have a := a.push (l := Bk none) (Ev.refl [] _) (fun _ q => by cases q)
 have v := v.push (l := Bk none) (fun _ q => by cases q)
 have s := OwnS.nil eI 3 bE (fl [Bk none, [i], [c], [f], [d], [e], o])
 have cm := Gl q
 have q := Gr q
 obtain ⟨j, Q, bF, ct, a2, bo, dr, cL⟩ := own_appendN tel22 22 s (Mf 0 R) ac cm
 refine x_builtin (vs := [Vl none (([] : List Int)) 0, Vl aZ O a0]) _ bF R R R R (run_value _ _ _ _ ct) (I1 ?_)
 have b : Stp (fl [Bk none, [i], [c], [f], [d], [e], o]) bE (fl [Bk j, [i], [c], [f], [d], [e], o]) bF := Stp.upd 0 a2 R (fun F G => (bo F G).1)
 have k := k.step b
 have m := m.step b
 have r := a2.box r (a.apart 5 0 R R R _ mem1)
 have p := a2.box p (a.apart 4 0 R R R _ mem1)
 have t := a2.box t (a.apart 3 0 R R R _ mem1)
 have u := a2.box u (a.apart 2 0 R R R _ mem1)
 have n := a2.box n (a.apart 1 0 R R R _ mem1)
 replace a : MS bF [Bk j, [i], [c], [f], [d], [e], o] := a.upd 0 a2 R bo
 have cl : FR ai.heap.size [Bk j, [i], [c], [f], [d], [e]] := v.upd 0 R g.size (fun F G => (bo F G).1)
 have g := g.then a2 (fun F G => .inr (v.at 0 R F G))
 have v := cl
 have s := cL (fl [Bk j, [i], [c], [f], [d], [e], o]) b.new
 refine Yf (Vp d 0) (Vp d 4) R (Rf tfld40_3 _ _) ?_
 obtain ⟨cU, cu, b5, a3⟩ := store_box 4 (Vl j ((([] : List Int) ++ O)) Q) #[Vi ad, Vi ae, Vl Y S ab, Vi af, Vl j ((([] : List Int) ++ O)) Q] tcell22 p R R R
 refine Ys cU _ _ R cu (I1 ?_)
 have b := Stp.ev' (ls := [Bk j, [i], [c], [f], [d], [e], o]) a3 (Mf 4 R)
 have k := k.step b
 have m := m.step b
 have r := a3.box r (a.apart 5 4 R R R _ mem1)
 have t := a3.box t (a.apart 3 4 R R R _ mem1)
 have u := a3.box u (a.apart 2 4 R R R _ mem1)
 have n := a3.box n (a.apart 1 4 R R R _ mem1)
 have s := s.step b a3 (a.apart 0 4 R R R)
 have a := a.ev a3
 have g := g.then a3 (fun F G => .inr (v.at 4 R F G))
 have p := b5
 refine Xk (Cs (x_makeFunc 37 #[] #[Vp d 0, Vp f 0, Vp e 0] R R R R (Xa (z := .nilFunc) R R (by kernel_rfl) (fun h cX br B aU du => ?_))))
 replace B : cX.heap[h]? = some (.cells #[.nilFunc] 133 (0, 0)) := B
 refine I1 ?_
 have b := Stp.box (ls := [Bk j, [i], [c], [f], [d], [e], o]) aU br
 have k := k.step b
 have m := m.step b
 have r := aU.box r nn
 have p := aU.box p nn
 have t := aU.box t nn
 have u := aU.box u nn
 have n := aU.box n nn
 have s := s.step b aU nn2
 have a := a.box aU br B
 have v := v.box g.size br
 have g := g.ext aU
 obtain ⟨cY, cv, b6, aX⟩ := store_box 0 ((.func (.func 37) #[] #[Vp d 0, Vp f 0, Vp e 0])) #[(.func (.func 37) #[] #[Vp d 0, Vp f 0, Vp e 0])] tcell133 B R R R
 refine Ys cY _ _ R cv (I1 ?_)
 have b := Stp.ev' (ls := [[h], Bk j, [i], [c], [f], [d], [e], o]) aX (Mf 0 R)
 have k := k.step b
 have m := m.step b
 have r := aX.box r (a.apart 6 0 R R R _ mem1)
 have p := aX.box p (a.apart 5 0 R R R _ mem1)
 have t := aX.box t (a.apart 4 0 R R R _ mem1)
 have u := aX.box u (a.apart 3 0 R R R _ mem1)
 have n := aX.box n (a.apart 2 0 R R R _ mem1)
 have s := s.step b aX (a.apart 1 0 R R R)
 have a := a.ev aX
 have g := g.then aX (fun F G => .inr (v.at 0 R F G))
 have B := b6
 refine Xk (Cq (Cs (Yl _ ((.func (.func 37) #[] #[Vp d 0, Vp f 0, Vp e 0])) R (Rb tcell133 B nn 0 _ R) (x_callin 37 #[] #[Vp d 0, Vp f 0, Vp e 0] [Vi 0, Vp d 0, Vp f 0, Vp e 0] R R R R (Cv hmx Tryz.func37 (by kernel_rfl) R (rs := [.cell 5 123, .tmp 6]) R (by kernel_rfl) (by kernel_rfl) ?_)))))
 refine Cs (Xa (z := .agg #[Vi 0, Vi 0, Vi 0, Vi 0, .bool false, .bool false]) R R (by kernel_rfl) (fun aj cZ bs aw az dv => ?_))
 replace aw : cZ.heap[aj]? = some (.cells #[Vi 0, Vi 0, Vi 0, Vi 0, .bool false, .bool false] 123 (0, 0)) := aw
 refine I1 ?_
 have b := Stp.box (ls := [[h], Bk j, [i], [c], [f], [d], [e], o]) az bs
 have k := k.step b
 have m := m.step b
 have r := az.box r nn
 have p := az.box p nn
 have t := az.box t nn
 have u := az.box u nn
 have n := az.box n nn
 have s := s.step b az nn2
 have B := az.box B nn
 have a := a.box az bs aw
 have v := v.box g.size bs
 have g := g.ext az
 refine Xu 1 [(6, Vi 0)] (Xk (Cn [(0, Vi 0), (1, Vp d 0), (2, Vp f 0), (3, Vp e 0), (5, Vp aj 0)] (fun L => ?_)))
 refine Cs (Yg d 0 4 (Vl j ((([] : List Int) ++ O)) Q) R R (Rf tfld40_3 _ _) tcell22 p nn R (Yl _ (Vi I) R (Rb tcell3 t nn 0 _ R) (Xu 1 [(10, Vi 0)] ?_)))
 obtain ⟨dN, bG, q⟩ := Bs q
 obtain ⟨dj, dg, bZ, cw, dn, am⟩ := Oi (Mo := []) tsl22 s bG
 obtain rfl := am
 refine Yi _ _ _ R cw ?_
 obtain ⟨bK, cx, aA, cn⟩ := own_storeE bZ (y := 0) 0 (Vi 0) tcell3 s (Mf 2 R) bG R R (fun _ _ _ am => set_int am)
 refine Ys bK _ _ R cx (I1 ?_)
 have b := Stp.ev' (ls := [[aj], [h], Bk j, [i], [c], [f], [d], [e], o]) aA (Mf 2 R)
 have k := k.step b
 have m := m.step b
 have r := aA.box r (a.apart 7 2 R R R _ mem1)
 have p := aA.box p (a.apart 6 2 R R R _ mem1)
 have t := aA.box t (a.apart 5 2 R R R _ mem1)
 have u := aA.box u (a.apart 4 2 R R R _ mem1)
 have n := aA.box n (a.apart 3 2 R R R _ mem1)
 have B := aA.box B (a.apart 1 2 R R R _ mem1)
 have aw := aA.box aw (a.apart 0 2 R R R _ mem1)
 have a := a.ev aA
 have g := g.then aA (fun F G => .inr (v.at 2 R F G))
 have s := cn
 have a4 : (Vl j ((([] : List Int) ++ O)) Q) = (Vl j (((([] : List Int) ++ O).set (Int.toNat I) 0)) Q) := by simp only [Vl, List.length_set]
 rw [a4] at p
 try rw [a4]
 refine Xk (Cs (Yl _ (Vl ag X ah) R (Rb tcell32 r nn 0 _ R) (Yl _ _ R (Ra 0 [Vi ad, Vi ae, Vl Y S ab, Vi af, Vl j (((([] : List Int) ++ O).set (Int.toNat I) 0)) Q] tagg40 p nn R) ?_)))
 obtain ⟨C, aY, q⟩ := Bs q
 have U := a.pk [0, 1, 3, 4, 5, 6, 7, 8] ([] ++ [[aj], [h], [i], [c], [f], [d], [e], o]) R
 have aq := Fk (ls := [[aj], [h], Bk j, [i], [c], [f], [d], [e], o]) [0, 1, 3, 4, 5, 6, 7, 8] [[aj], [h], [i], [c], [f], [d], [e], o] R
 have aS := retarder_last_w ag ah X ad ae Y ab S af j Q ((([] : List Int) ++ O).set (Int.toNat I) 0) _ bK (fl [[aj], [h], [i], [c], [f], [d], [e], o]) (MS.fold (P := []) U) (k.sub aq) (m.sub aq) (s.ro aq (Po a 2 R [0, 1, 3, 4, 5, 6, 7, 8] [[aj], [h], [i], [c], [f], [d], [e], o] R R)) aY
 refine Xc 38 #[] #[] _ _ R R R R aS ?_
 rintro be dG ⟨rfl, an⟩
 refine I1 ?_
 have b := Stp.ext (ls := [[aj], [h], Bk j, [i], [c], [f], [d], [e], o]) an
 have k := k.step b
 have m := m.step b
 have r := an.box r nn
 have p := an.box p nn
 have t := an.box t nn
 have u := an.box u nn
 have n := an.box n nn
 have s := s.step b an nn2
 have B := an.box B nn
 have aw := an.box aw nn
 have a := a.ev an
 have g := g.ext an
 refine Xu 2 [(15, .agg #[Vi C.1.1.1, Vi C.1.1.2, Vi C.1.2.1.1, Vi C.1.2.1.2, .bool C.1.2.2.1, .bool C.1.2.2.2]), (16, Vi C.2)] ?_
 obtain ⟨c0, cy, b7, aB⟩ := Sa [Vi C.1.1.1, Vi C.1.1.2, Vi C.1.2.1.1, Vi C.1.2.1.2, .bool C.1.2.2.1, .bool C.1.2.2.2] tagg123 aw R R R
 refine Ys c0 _ _ R cy (I1 ?_)
 have b := Stp.ev' (ls := [[aj], [h], Bk j, [i], [c], [f], [d], [e], o]) aB (Mf 0 R)
 have k := k.step b
 have m := m.step b
 have r := aB.box r (a.apart 7 0 R R R _ mem1)
 have p := aB.box p (a.apart 6 0 R R R _ mem1)
 have t := aB.box t (a.apart 5 0 R R R _ mem1)
 have u := aB.box u (a.apart 4 0 R R R _ mem1)
 have n := aB.box n (a.apart 3 0 R R R _ mem1)
 have s := s.step b aB (a.apart 2 0 R R R)
 have B := aB.box B (a.apart 1 0 R R R _ mem1)
 have a := a.ev aB
 have g := g.then aB (fun F G => .inr (v.at 0 R F G))
 have aw := b7
 refine Xu 1 [(6, Vi C.2)] (Xk (Cr (Rr (Rv [.agg #[Vi C.1.1.1, Vi C.1.1.2, Vi C.1.2.1.1, Vi C.1.2.1.2, .bool C.1.2.2.1, .bool C.1.2.2.2], Vi C.2] ⟨⟨_, R, Lv (Ra (Mo := []) 0 [Vi C.1.1.1, Vi C.1.1.2, Vi C.1.2.1.1, Vi C.1.2.1.2, .bool C.1.2.2.1, .bool C.1.2.2.2] tagg123 aw nn R)⟩, R, T0⟩ ?_))))
 refine I1 (Xu 3 [(34, .tuple #[.agg #[Vi C.1.1.1, Vi C.1.1.2, Vi C.1.2.1.1, Vi C.1.2.1.2, .bool C.1.2.2.1, .bool C.1.2.2.2], Vi C.2]), (37, .agg #[Vi C.1.1.1, Vi C.1.1.2, Vi C.1.2.1.1, Vi C.1.2.1.2, .bool C.1.2.2.1, .bool C.1.2.2.2]), (38, Vi C.2)] (Xa (z := .agg #[Vi 0, Vi 0, Vi 0, Vi 0, .bool false, .bool false]) R R (by kernel_rfl) (fun bk c1 bt bg aC dw => ?_)))
 replace bg : c1.heap[bk]? = some (.cells #[Vi 0, Vi 0, Vi 0, Vi 0, .bool false, .bool false] 123 (0, 0)) := bg
 refine I1 ?_
 have b := Stp.box (ls := [[aj], [h], Bk j, [i], [c], [f], [d], [e], o]) aC bt
 have k := k.step b
 have m := m.step b
 have r := aC.box r nn
 have p := aC.box p nn
 have t := aC.box t nn
 have u := aC.box u nn
 have n := aC.box n nn
 have s := s.step b aC nn2
 have B := aC.box B nn
 have a := a.box aC bt bg
 have v := v.box g.size bt
 have g := g.ext aC
 obtain ⟨c2, cz, dm, aD⟩ := Sa [Vi C.1.1.1, Vi C.1.1.2, Vi C.1.2.1.1, Vi C.1.2.1.2, .bool C.1.2.2.1, .bool C.1.2.2.2] tagg123 bg R R R
 refine Ys c2 _ _ R cz (I1 ?_)
 have b := Stp.ev' (ls := [[bk], [aj], [h], Bk j, [i], [c], [f], [d], [e], o]) aD (Mf 0 R)
 have k := k.step b
 have m := m.step b
 have r := aD.box r (a.apart 8 0 R R R _ mem1)
 have p := aD.box p (a.apart 7 0 R R R _ mem1)
 have t := aD.box t (a.apart 6 0 R R R _ mem1)
 have u := aD.box u (a.apart 5 0 R R R _ mem1)
 have n := aD.box n (a.apart 4 0 R R R _ mem1)
 have s := s.step b aD (a.apart 3 0 R R R)
 have B := aD.box B (a.apart 2 0 R R R _ mem1)
 have a := a.ev aD
 have g := g.then aD (fun F G => .inr (v.at 0 R F G))
 refine Xu 1 [(12, Vi C.2)] (Xk (Cn [(7, Vp c 0), (8, Vp i 0), (10, Vp h 0), (12, Vi C.2)] (fun L => ?_)))
 refine Cs (Xu 2 [(39, Vi C.2), (40, .bool (C.2 != 0))] (Xk (Ci (C.2 != 0) R q (fun q => ?_) (fun q => ?_))))
 · refine Cs (Xd (vs := []) (.agg #[Vi 0, Vi 0]) R R R (fun _ _ => by kernel_rfl) ?_)
   refine Xu 1 [(42, Vi C.2)] ?_
   obtain ⟨c4, cA, b8, ci⟩ := Sa [Vi 0, Vi 0] tagg37 n R R R
   refine Ys c4 _ _ R cA (I1 ?_)
   have g := g.then ci (fun F G => .inr (v.at 4 R F G))
   have n := b8
   refine Xu 1 [(9, Vi C.2)] (Xk (Cr (Kr (Rr (Rv [.agg #[Vi 0, Vi 0], Vi C.2] ⟨⟨_, R, Lv (Ra (Mo := []) 0 [Vi 0, Vi 0] tagg37 n nn R)⟩, R, T0⟩ ?_)))))
   obtain rfl := Sj q
   exact ⟨R, g⟩
 refine Ck (Kt (Cs (x_makeFunc 40 #[] #[Vp h 0, Vp c 0] R R R R (x_callin 39 #[] #[] [(.func (.func 40) #[] #[Vp h 0, Vp c 0])] R R R R (Cv hmx Tryz.func39 (by kernel_rfl) R (rs := [.tmp 2]) R (by kernel_rfl) (by kernel_rfl) ?_)))))
 refine Cs (Xu 1 [(2, Vi 0)] (Xk (Cn [(0, (.func (.func 40) #[] #[Vp h 0, Vp c 0]))] (fun L => ?_))))
 refine Cs (Xu 2 [(3, Vi 0), (4, Vi 20001)] (Xk (Cq (Cb ?_))))
 have U := a.pk [3, 7, 6, 8, 2, 5, 4, 9] [Bk j, [d], [f], [e], [h], [c], [i], o] R
 have N := Pk (ls := [[bk], [aj], [h], Bk j, [i], [c], [f], [d], [e], o]) [3, 7, 6, 8, 2, 5, 4, 9] [Bk j, [d], [f], [e], [h], [c], [i], o] R
 have m := m.sub N
 have s := s.sub N
 have k := k.sub N
 have a := U
 have v := v.pk [3, 7, 6, 8, 2, 5, 4] [Bk j, [d], [f], [e], [h], [c], [i]] R
 obtain ⟨bS, bl, bX⟩ := Bs q
 obtain ⟨bd, bl⟩ := Lo bl
 refine Cl (Lr hmx (σ := Nat × (List Int) × Int × Int) (fun au => match au with | (_, ak, D, H) => [(0, (.func (.func 40) #[] #[Vp h 0, Vp c 0])), (3, Vi D), (4, Vi H)]) (fun au K => match au with | (bD, ak, D, H) => loopN (retarder_Window_L41 X ad ae S af I ar) bD (ak, D, H) = some bS ∧ Ev [] ai K ∧ MS K [Bk j, [d], [f], [e], [h], [c], [i], o] ∧ FR ai.heap.size [Bk j, [d], [f], [e], [h], [c], [i]] ∧ SlR (eProd eI eI) K (fl [Bk j, [d], [f], [e], [h], [c], [i], o]) Y ab S ∧ OwnS eI 3 K (fl [Bk j, [d], [f], [e], [h], [c], [i], o]) j Q ak ∧ K.heap[d]? = some (.cells #[Vi ad, Vi ae, Vl Y S ab, Vi af, Vl j ak Q] 40 (0, 0)) ∧ K.heap[f]? = some (.cells #[Vi I] 3 (0, 0)) ∧ SlR (eProd eI (eIt4)) K (fl [Bk j, [d], [f], [e], [h], [c], [i], o]) ag ah X ∧ K.heap[e]? = some (.cells #[Vl ag X ah] 32 (0, 0)) ∧ K.heap[h]? = some (.cells #[(.func (.func 37) #[] #[Vp d 0, Vp f 0, Vp e 0])] 133 (0, 0)) ∧ K.heap[c]? = some (.cells #[Vi ar, Vi J] 42 (0, 0)) ∧ K.heap[i]? = some (.cells #[Vi 0, Vi 0] 37 (0, 0))) (fun au => au.1) (bd, ((([] : List Int) ++ O).set (Int.toNat I) 0), 0, 20001) ⟨R, R, R, T0⟩ ⟨bl, g, a, v, m, s, p, t, k, r, B, u, n⟩ ?_)
 rintro ⟨bd, ak, D, H⟩ L dK ⟨bc, g, a, v, m, s, p, t, k, r, B, u, n⟩
 rcases bd with _ | bd
 · exact (Lz bc).elim
 obtain ⟨dE, q, bc⟩ := Bs bc
 refine Cq (Cs (Xu 3 [(6, Vi D), (7, Vi H), (8, Bd (D < H))] (Xk (Cn [(0, (.func (.func 40) #[] #[Vp h 0, Vp c 0])), (3, Vi D), (4, Vi H), (8, Bd (D < H))] (fun L => ?_)))))
 refine Ci (decide (D < H)) R q (fun q => ?_) (fun q => ?_)
 · refine Ck (Kt (Cb (Cs (Xu 5 [(9, Vi D), (10, Vi H), (11, Vi (i64.wrap (D + H))), (12, Vi (i64.wrap (Int.tdiv (i64.wrap (D + H)) 2))), (5, Vi (i64.wrap (Int.tdiv (i64.wrap (D + H)) 2)))] (Xk (Cs (Xu 2 [(13, (.func (.func 40) #[] #[Vp h 0, Vp c 0])), (14, Vi (i64.wrap (Int.tdiv (i64.wrap (D + H)) 2)))] (x_callin 40 #[] #[Vp h 0, Vp c 0] [Vi (i64.wrap (Int.tdiv (i64.wrap (D + H)) 2)), Vp h 0, Vp c 0] R R R R (Cv hmx Tryz.func40 (by kernel_rfl) R (rs := [.tmp 4]) R (by kernel_rfl) (by kernel_rfl) ?_)))))))))
   refine Cs (Xu 1 [(4, .bool false)] (Xk (Cn [(0, Vi (i64.wrap (Int.tdiv (i64.wrap (D + H)) 2))), (1, Vp h 0), (2, Vp c 0)] (fun L => ?_))))
   refine Cs (Yl _ ((.func (.func 37) #[] #[Vp d 0, Vp f 0, Vp e 0])) R (Rb tcell133 B nn 0 _ R) (Xu 1 [(9, Vi (i64.wrap (Int.tdiv (i64.wrap (D + H)) 2)))] (x_callin 37 #[] #[Vp d 0, Vp f 0, Vp e 0] [Vi (i64.wrap (Int.tdiv (i64.wrap (D + H)) 2)), Vp d 0, Vp f 0, Vp e 0] R R R R (Cv hmx Tryz.func37 (by kernel_rfl) R (rs := [.cell 5 123, .tmp 6]) R (by kernel_rfl) (by kernel_rfl) ?_))))
   refine Cs (Xa (z := .agg #[Vi 0, Vi 0, Vi 0, Vi 0, .bool false, .bool false]) R R (by kernel_rfl) (fun Z c5 bv ax aE dy => ?_))
   replace ax : c5.heap[Z]? = some (.cells #[Vi 0, Vi 0, Vi 0, Vi 0, .bool false, .bool false] 123 (0, 0)) := ax
   refine I1 ?_
   have b := Stp.box (ls := [Bk j, [d], [f], [e], [h], [c], [i], o]) aE bv
   have B := aE.box B nn
   have p := aE.box p nn
   have m := m.step b
   have s := s.step b aE nn2
   have t := aE.box t nn
   have r := aE.box r nn
   have k := k.step b
   have u := aE.box u nn
   have n := aE.box n nn
   have a := a.box aE bv ax
   have v := v.box g.size bv
   have g := g.ext aE
   refine Xu 1 [(6, Vi 0)] (Xk (Cn [(0, Vi (i64.wrap (Int.tdiv (i64.wrap (D + H)) 2))), (1, Vp d 0), (2, Vp f 0), (3, Vp e 0), (5, Vp Z 0)] (fun L => ?_)))
   refine Cs (Yg d 0 4 (Vl j ak Q) R R (Rf tfld40_3 _ _) tcell22 p nn R (Yl _ (Vi I) R (Rb tcell3 t nn 0 _ R) (Xu 1 [(10, Vi (i64.wrap (Int.tdiv (i64.wrap (D + H)) 2)))] ?_)))
   obtain ⟨dO, bH, q⟩ := Bs q
   obtain ⟨dk, dh, b0, cB, dp, am⟩ := Oi (Mo := []) tsl22 s bH
   obtain rfl := am
   refine Yi _ _ _ R cB ?_
   obtain ⟨bL, cC, aF, co⟩ := own_storeE b0 (y := i64.wrap (Int.tdiv (i64.wrap (D + H)) 2)) 0 (Vi (i64.wrap (Int.tdiv (i64.wrap (D + H)) 2))) tcell3 s (Mf 1 R) bH R R (fun _ _ _ am => set_int am)
   refine Ys bL _ _ R cC (I1 ?_)
   have b := Stp.ev' (ls := [[Z], Bk j, [d], [f], [e], [h], [c], [i], o]) aF (Mf 1 R)
   have B := aF.box B (a.apart 5 1 R R R _ mem1)
   have p := aF.box p (a.apart 2 1 R R R _ mem1)
   have m := m.step b
   have t := aF.box t (a.apart 3 1 R R R _ mem1)
   have r := aF.box r (a.apart 4 1 R R R _ mem1)
   have k := k.step b
   have u := aF.box u (a.apart 6 1 R R R _ mem1)
   have n := aF.box n (a.apart 7 1 R R R _ mem1)
   have ax := aF.box ax (a.apart 0 1 R R R _ mem1)
   have a := a.ev aF
   have g := g.then aF (fun F G => .inr (v.at 1 R F G))
   have s := co
   have a4 : (Vl j ak Q) = (Vl j ((ak.set (Int.toNat I) (i64.wrap (Int.tdiv (i64.wrap (D + H)) 2)))) Q) := by simp only [Vl, List.length_set]
   rw [a4] at p
   try rw [a4]
   refine Xk (Cs (Yl _ (Vl ag X ah) R (Rb tcell32 r nn 0 _ R) (Yl _ _ R (Ra 0 [Vi ad, Vi ae, Vl Y S ab, Vi af, Vl j ((ak.set (Int.toNat I) (i64.wrap (Int.tdiv (i64.wrap (D + H)) 2)))) Q] tagg40 p nn R) ?_)))
   obtain ⟨x, aY, q⟩ := Bs q
   have U := a.pk [0, 2, 3, 4, 5, 6, 7, 8] ([] ++ [[Z], [d], [f], [e], [h], [c], [i], o]) R
   have aq := Fk (ls := [[Z], Bk j, [d], [f], [e], [h], [c], [i], o]) [0, 2, 3, 4, 5, 6, 7, 8] [[Z], [d], [f], [e], [h], [c], [i], o] R
   have aS := retarder_last_w ag ah X ad ae Y ab S af j Q (ak.set (Int.toNat I) (i64.wrap (Int.tdiv (i64.wrap (D + H)) 2))) _ bL (fl [[Z], [d], [f], [e], [h], [c], [i], o]) (MS.fold (P := []) U) (k.sub aq) (m.sub aq) (s.ro aq (Po a 1 R [0, 2, 3, 4, 5, 6, 7, 8] [[Z], [d], [f], [e], [h], [c], [i], o] R R)) aY
   refine Xc 38 #[] #[] _ _ R R R R aS ?_
   rintro be dH ⟨rfl, ao⟩
   refine I1 ?_
   have b := Stp.ext (ls := [[Z], Bk j, [d], [f], [e], [h], [c], [i], o]) ao
   have B := ao.box B nn
   have p := ao.box p nn
   have m := m.step b
   have s := s.step b ao nn2
   have t := ao.box t nn
   have r := ao.box r nn
   have k := k.step b
   have u := ao.box u nn
   have n := ao.box n nn
   have ax := ao.box ax nn
   have a := a.ev ao
   have g := g.ext ao
   refine Xu 2 [(15, .agg #[Vi x.1.1.1, Vi x.1.1.2, Vi x.1.2.1.1, Vi x.1.2.1.2, .bool x.1.2.2.1, .bool x.1.2.2.2]), (16, Vi x.2)] ?_
   obtain ⟨c6, cD, b9, aG⟩ := Sa [Vi x.1.1.1, Vi x.1.1.2, Vi x.1.2.1.1, Vi x.1.2.1.2, .bool x.1.2.2.1, .bool x.1.2.2.2] tagg123 ax R R R
   refine Ys c6 _ _ R cD (I1 ?_)
   have b := Stp.ev' (ls := [[Z], Bk j, [d], [f], [e], [h], [c], [i], o]) aG (Mf 0 R)
   have B := aG.box B (a.apart 5 0 R R R _ mem1)
   have p := aG.box p (a.apart 2 0 R R R _ mem1)
   have m := m.step b
   have s := s.step b aG (a.apart 1 0 R R R)
   have t := aG.box t (a.apart 3 0 R R R _ mem1)
   have r := aG.box r (a.apart 4 0 R R R _ mem1)
   have k := k.step b
   have u := aG.box u (a.apart 6 0 R R R _ mem1)
   have n := aG.box n (a.apart 7 0 R R R _ mem1)
   have a := a.ev aG
   have g := g.then aG (fun F G => .inr (v.at 0 R F G))
   have ax := b9
   refine Xu 1 [(6, Vi x.2)] (Xk (Cr (Rr (Rv [.agg #[Vi x.1.1.1, Vi x.1.1.2, Vi x.1.2.1.1, Vi x.1.2.1.2, .bool x.1.2.2.1, .bool x.1.2.2.2], Vi x.2] ⟨⟨_, R, Lv (Ra (Mo := []) 0 [Vi x.1.1.1, Vi x.1.1.2, Vi x.1.2.1.1, Vi x.1.2.1.2, .bool x.1.2.2.1, .bool x.1.2.2.2] tagg123 ax nn R)⟩, R, T0⟩ ?_))))
   refine I1 (Xu 3 [(7, .tuple #[.agg #[Vi x.1.1.1, Vi x.1.1.2, Vi x.1.2.1.1, Vi x.1.2.1.2, .bool x.1.2.2.1, .bool x.1.2.2.2], Vi x.2]), (11, .agg #[Vi x.1.1.1, Vi x.1.1.2, Vi x.1.2.1.1, Vi x.1.2.1.2, .bool x.1.2.2.1, .bool x.1.2.2.2]), (12, Vi x.2)] (Xa (z := .agg #[Vi 0, Vi 0, Vi 0, Vi 0, .bool false, .bool false]) R R (by kernel_rfl) (fun a9 c7 bw ba aH dz => ?_)))
   replace ba : c7.heap[a9]? = some (.cells #[Vi 0, Vi 0, Vi 0, Vi 0, .bool false, .bool false] 123 (0, 0)) := ba
   refine I1 ?_
   have b := Stp.box (ls := [[Z], Bk j, [d], [f], [e], [h], [c], [i], o]) aH bw
   have B := aH.box B nn
   have p := aH.box p nn
   have m := m.step b
   have s := s.step b aH nn2
   have t := aH.box t nn
   have r := aH.box r nn
   have k := k.step b
   have u := aH.box u nn
   have n := aH.box n nn
   have a := a.box aH bw ba
   have v := v.box g.size bw
   have g := g.ext aH
   obtain ⟨bN, cE, ca, aI⟩ := Sa [Vi x.1.1.1, Vi x.1.1.2, Vi x.1.2.1.1, Vi x.1.2.1.2, .bool x.1.2.2.1, .bool x.1.2.2.2] tagg123 ba R R R
   refine Ys bN _ _ R cE (I1 ?_)
   have b := Stp.ev' (ls := [[a9], [Z], Bk j, [d], [f], [e], [h], [c], [i], o]) aI (Mf 0 R)
   have B := aI.box B (a.apart 6 0 R R R _ mem1)
   have p := aI.box p (a.apart 3 0 R R R _ mem1)
   have m := m.step b
   have s := s.step b aI (a.apart 2 0 R R R)
   have t := aI.box t (a.apart 4 0 R R R _ mem1)
   have r := aI.box r (a.apart 5 0 R R R _ mem1)
   have k := k.step b
   have u := aI.box u (a.apart 7 0 R R R _ mem1)
   have n := aI.box n (a.apart 8 0 R R R _ mem1)
   have a := a.ev aI
   have g := g.then aI (fun F G => .inr (v.at 0 R F G))
   have ba := ca
   refine Xu 1 [(6, Vi x.2)] (Xk (Cn [(2, Vp c 0), (5, Vp a9 0)] (fun L => ?_)))
   refine Cs (Yl _ _ R (Ra 0 [Vi x.1.1.1, Vi x.1.1.2, Vi x.1.2.1.1, Vi x.1.2.1.2, .bool x.1.2.2.1, .bool x.1.2.2.2] tagg123 ba nn R) (Yg c 0 0 (Vi ar) R R (Rf tfld42_0 _ _) tcell3 u nn R ?_))
   obtain ⟨bj, aY, q⟩ := Bs q
   have aS := retarder_enough_w x.1.1.1 x.1.1.2 x.1.2.1.1 x.1.2.1.2 x.1.2.2.1 x.1.2.2.2 ar _ bN aY
   refine Xc 41 #[] #[] _ _ R R R R aS ?_
   rintro be dI ⟨rfl, aJ⟩
   refine I1 ?_
   have b := Stp.ext (ls := [[a9], [Z], Bk j, [d], [f], [e], [h], [c], [i], o]) aJ
   have B := aJ.box B nn
   have p := aJ.box p nn
   have m := m.step b
   have s := s.step b aJ nn2
   have t := aJ.box t nn
   have r := aJ.box r nn
   have k := k.step b
   have u := aJ.box u nn
   have n := aJ.box n nn
   have a := a.ev aJ
   have g := g.ext aJ
   refine Xu 1 [(4, .bool bj)] (Xk (Cr (Rr (Rv [.bool bj] ⟨R, T0⟩ ?_))))
   refine I1 (Xk (Cn [(0, (.func (.func 40) #[] #[Vp h 0, Vp c 0])), (3, Vi D), (4, Vi H), (5, Vi (i64.wrap (Int.tdiv (i64.wrap (D + H)) 2))), (15, .bool bj)] (fun L => ?_)))
   refine Ci bj R q (fun q => ?_) (fun q => ?_)
   · refine Cp (Xu 2 [(16, Vi (i64.wrap (Int.tdiv (i64.wrap (D + H)) 2))), (4, Vi (i64.wrap (Int.tdiv (i64.wrap (D + H)) 2)))] (Xe R (Kl ?_)))
     obtain rfl := Sj q
     have U := a.pk [2, 3, 4, 5, 6, 7, 8, 9] [Bk j, [d], [f], [e], [h], [c], [i], o] R
     have N := Pk (ls := [[a9], [Z], Bk j, [d], [f], [e], [h], [c], [i], o]) [2, 3, 4, 5, 6, 7, 8, 9] [Bk j, [d], [f], [e], [h], [c], [i], o] R
     have m := m.sub N
     have s := s.sub N
     have k := k.sub N
     have a := U
     have v := v.pk [2, 3, 4, 5, 6, 7, 8] [Bk j, [d], [f], [e], [h], [c], [i]] R
     exact Kt ⟨(bd, (ak.set (Int.toNat I) (i64.wrap (Int.tdiv (i64.wrap (D + H)) 2))), D, i64.wrap (Int.tdiv (i64.wrap (D + H)) 2)), ⟨R, R, R, T0⟩, ⟨bc, g, a, v, m, s, p, t, k, r, B, u, n⟩, Ns _⟩
   refine Cp (Xu 3 [(17, Vi (i64.wrap (Int.tdiv (i64.wrap (D + H)) 2))), (18, Vi (i64.wrap ((i64.wrap (Int.tdiv (i64.wrap (D + H)) 2)) + 1))), (3, Vi (i64.wrap ((i64.wrap (Int.tdiv (i64.wrap (D + H)) 2)) + 1)))] (Xe R (Kl ?_)))
   obtain rfl := Sj q
   have U := a.pk [2, 3, 4, 5, 6, 7, 8, 9] [Bk j, [d], [f], [e], [h], [c], [i], o] R
   have N := Pk (ls := [[a9], [Z], Bk j, [d], [f], [e], [h], [c], [i], o]) [2, 3, 4, 5, 6, 7, 8, 9] [Bk j, [d], [f], [e], [h], [c], [i], o] R
   have m := m.sub N
   have s := s.sub N
   have k := k.sub N
   have a := U
   have v := v.pk [2, 3, 4, 5, 6, 7, 8] [Bk j, [d], [f], [e], [h], [c], [i]] R
   exact Kt ⟨(bd, (ak.set (Int.toNat I) (i64.wrap (Int.tdiv (i64.wrap (D + H)) 2))), i64.wrap ((i64.wrap (Int.tdiv (i64.wrap (D + H)) 2)) + 1), H), ⟨R, R, R, T0⟩, ⟨bc, g, a, v, m, s, p, t, k, r, B, u, n⟩, Ns _⟩
 refine Ce (Ke ?_)
 obtain rfl := Sj q
 have bC := Sj bc
 subst bC
 have q := bX
 refine Ke (Ki (Kt (Cn [(3, Vi D)] (fun L => ?_))))
 refine Cs (Xu 2 [(19, Vi D), (2, Vi D)] (Xk (Cr (Rr (Rv [Vi D] ⟨R, T0⟩ ?_)))))
 refine I1 (Xu 1 [(13, Vi D)] (Xk (Cn [(7, Vp c 0), (8, Vp i 0), (10, Vp h 0), (13, Vi D)] (fun L => ?_))))
 refine Cs (x_makeFunc 42 #[] #[Vp h 0, Vp c 0] R R R R (x_callin 39 #[] #[] [(.func (.func 42) #[] #[Vp h 0, Vp c 0])] R R R R (Cv hmx Tryz.func39 (by kernel_rfl) R (rs := [.tmp 2]) R (by kernel_rfl) (by kernel_rfl) ?_)))
 refine Cs (Xu 1 [(2, Vi 0)] (Xk (Cn [(0, (.func (.func 42) #[] #[Vp h 0, Vp c 0]))] (fun L => ?_))))
 refine Cs (Xu 2 [(3, Vi 0), (4, Vi 20001)] (Xk (Cq (Cb ?_))))
 obtain ⟨bU, bm, bY⟩ := Bs q
 obtain ⟨a8, bm⟩ := Lo bm
 refine Cl (Lr hmx (σ := Nat × (List Int) × Int × Int) (fun au => match au with | (_, al, w, E) => [(0, (.func (.func 42) #[] #[Vp h 0, Vp c 0])), (3, Vi w), (4, Vi E)]) (fun au K => match au with | (bD, al, w, E) => loopN (retarder_Window_L56 X ad ae S af I J) bD (al, w, E) = some bU ∧ Ev [] ai K ∧ MS K [Bk j, [d], [f], [e], [h], [c], [i], o] ∧ FR ai.heap.size [Bk j, [d], [f], [e], [h], [c], [i]] ∧ SlR (eProd eI eI) K (fl [Bk j, [d], [f], [e], [h], [c], [i], o]) Y ab S ∧ OwnS eI 3 K (fl [Bk j, [d], [f], [e], [h], [c], [i], o]) j Q al ∧ K.heap[d]? = some (.cells #[Vi ad, Vi ae, Vl Y S ab, Vi af, Vl j al Q] 40 (0, 0)) ∧ K.heap[f]? = some (.cells #[Vi I] 3 (0, 0)) ∧ SlR (eProd eI (eIt4)) K (fl [Bk j, [d], [f], [e], [h], [c], [i], o]) ag ah X ∧ K.heap[e]? = some (.cells #[Vl ag X ah] 32 (0, 0)) ∧ K.heap[h]? = some (.cells #[(.func (.func 37) #[] #[Vp d 0, Vp f 0, Vp e 0])] 133 (0, 0)) ∧ K.heap[c]? = some (.cells #[Vi ar, Vi J] 42 (0, 0)) ∧ K.heap[i]? = some (.cells #[Vi 0, Vi 0] 37 (0, 0))) (fun au => au.1) (a8, ak, 0, 20001) ⟨R, R, R, T0⟩ ⟨bm, g, a, v, m, s, p, t, k, r, B, u, n⟩ ?_)
 rintro ⟨a8, al, w, E⟩ L dL ⟨a7, g, a, v, m, s, p, t, k, r, B, u, n⟩
 rcases a8 with _ | a8
 · exact (Lz a7).elim
 obtain ⟨dF, q, a7⟩ := Bs a7
 refine Cq (Cs (Xu 3 [(6, Vi w), (7, Vi E), (8, Bd (w < E))] (Xk (Cn [(0, (.func (.func 42) #[] #[Vp h 0, Vp c 0])), (3, Vi w), (4, Vi E), (8, Bd (w < E))] (fun L => ?_)))))
 refine Ci (decide (w < E)) R q (fun q => ?_) (fun q => ?_)
 · refine Ck (Kt (Cb (Cs (Xu 5 [(9, Vi w), (10, Vi E), (11, Vi (i64.wrap (w + E))), (12, Vi (i64.wrap (Int.tdiv (i64.wrap (w + E)) 2))), (5, Vi (i64.wrap (Int.tdiv (i64.wrap (w + E)) 2)))] (Xk (Cs (Xu 2 [(13, (.func (.func 42) #[] #[Vp h 0, Vp c 0])), (14, Vi (i64.wrap (Int.tdiv (i64.wrap (w + E)) 2)))] (x_callin 42 #[] #[Vp h 0, Vp c 0] [Vi (i64.wrap (Int.tdiv (i64.wrap (w + E)) 2)), Vp h 0, Vp c 0] R R R R (Cv hmx Tryz.func42 (by kernel_rfl) R (rs := [.tmp 4]) R (by kernel_rfl) (by kernel_rfl) ?_)))))))))
   refine Cs (Xu 1 [(4, .bool false)] (Xk (Cn [(0, Vi (i64.wrap (Int.tdiv (i64.wrap (w + E)) 2))), (1, Vp h 0), (2, Vp c 0)] (fun L => ?_))))
   refine Cs (Yl _ ((.func (.func 37) #[] #[Vp d 0, Vp f 0, Vp e 0])) R (Rb tcell133 B nn 0 _ R) (Xu 1 [(9, Vi (i64.wrap (Int.tdiv (i64.wrap (w + E)) 2)))] (x_callin 37 #[] #[Vp d 0, Vp f 0, Vp e 0] [Vi (i64.wrap (Int.tdiv (i64.wrap (w + E)) 2)), Vp d 0, Vp f 0, Vp e 0] R R R R (Cv hmx Tryz.func37 (by kernel_rfl) R (rs := [.cell 5 123, .tmp 6]) R (by kernel_rfl) (by kernel_rfl) ?_))))
   refine Cs (Xa (z := .agg #[Vi 0, Vi 0, Vi 0, Vi 0, .bool false, .bool false]) R R (by kernel_rfl) (fun aa c8 bx ay aK dA => ?_))
   replace ay : c8.heap[aa]? = some (.cells #[Vi 0, Vi 0, Vi 0, Vi 0, .bool false, .bool false] 123 (0, 0)) := ay
   refine I1 ?_
   have b := Stp.box (ls := [Bk j, [d], [f], [e], [h], [c], [i], o]) aK bx
   have B := aK.box B nn
   have p := aK.box p nn
   have m := m.step b
   have s := s.step b aK nn2
   have t := aK.box t nn
   have r := aK.box r nn
   have k := k.step b
   have u := aK.box u nn
   have n := aK.box n nn
   have a := a.box aK bx ay
   have v := v.box g.size bx
   have g := g.ext aK
   refine Xu 1 [(6, Vi 0)] (Xk (Cn [(0, Vi (i64.wrap (Int.tdiv (i64.wrap (w + E)) 2))), (1, Vp d 0), (2, Vp f 0), (3, Vp e 0), (5, Vp aa 0)] (fun L => ?_)))
   refine Cs (Yg d 0 4 (Vl j al Q) R R (Rf tfld40_3 _ _) tcell22 p nn R (Yl _ (Vi I) R (Rb tcell3 t nn 0 _ R) (Xu 1 [(10, Vi (i64.wrap (Int.tdiv (i64.wrap (w + E)) 2)))] ?_)))
   obtain ⟨dQ, bI, q⟩ := Bs q
   obtain ⟨dl, di, b1, cF, dq, am⟩ := Oi (Mo := []) tsl22 s bI
   obtain rfl := am
   refine Yi _ _ _ R cF ?_
   obtain ⟨bO, cG, aL, cp⟩ := own_storeE b1 (y := i64.wrap (Int.tdiv (i64.wrap (w + E)) 2)) 0 (Vi (i64.wrap (Int.tdiv (i64.wrap (w + E)) 2))) tcell3 s (Mf 1 R) bI R R (fun _ _ _ am => set_int am)
   refine Ys bO _ _ R cG (I1 ?_)
   have b := Stp.ev' (ls := [[aa], Bk j, [d], [f], [e], [h], [c], [i], o]) aL (Mf 1 R)
   have B := aL.box B (a.apart 5 1 R R R _ mem1)
   have p := aL.box p (a.apart 2 1 R R R _ mem1)
   have m := m.step b
   have t := aL.box t (a.apart 3 1 R R R _ mem1)
   have r := aL.box r (a.apart 4 1 R R R _ mem1)
   have k := k.step b
   have u := aL.box u (a.apart 6 1 R R R _ mem1)
   have n := aL.box n (a.apart 7 1 R R R _ mem1)
   have ay := aL.box ay (a.apart 0 1 R R R _ mem1)
   have a := a.ev aL
   have g := g.then aL (fun F G => .inr (v.at 1 R F G))
   have s := cp
   have a4 : (Vl j al Q) = (Vl j ((al.set (Int.toNat I) (i64.wrap (Int.tdiv (i64.wrap (w + E)) 2)))) Q) := by simp only [Vl, List.length_set]
   rw [a4] at p
   try rw [a4]
   refine Xk (Cs (Yl _ (Vl ag X ah) R (Rb tcell32 r nn 0 _ R) (Yl _ _ R (Ra 0 [Vi ad, Vi ae, Vl Y S ab, Vi af, Vl j ((al.set (Int.toNat I) (i64.wrap (Int.tdiv (i64.wrap (w + E)) 2)))) Q] tagg40 p nn R) ?_)))
   obtain ⟨A, aY, q⟩ := Bs q
   have U := a.pk [0, 2, 3, 4, 5, 6, 7, 8] ([] ++ [[aa], [d], [f], [e], [h], [c], [i], o]) R
   have aq := Fk (ls := [[aa], Bk j, [d], [f], [e], [h], [c], [i], o]) [0, 2, 3, 4, 5, 6, 7, 8] [[aa], [d], [f], [e], [h], [c], [i], o] R
   have aS := retarder_last_w ag ah X ad ae Y ab S af j Q (al.set (Int.toNat I) (i64.wrap (Int.tdiv (i64.wrap (w + E)) 2))) _ bO (fl [[aa], [d], [f], [e], [h], [c], [i], o]) (MS.fold (P := []) U) (k.sub aq) (m.sub aq) (s.ro aq (Po a 1 R [0, 2, 3, 4, 5, 6, 7, 8] [[aa], [d], [f], [e], [h], [c], [i], o] R R)) aY
   refine Xc 38 #[] #[] _ _ R R R R aS ?_
   rintro be dJ ⟨rfl, ap⟩
   refine I1 ?_
   have b := Stp.ext (ls := [[aa], Bk j, [d], [f], [e], [h], [c], [i], o]) ap
   have B := ap.box B nn
   have p := ap.box p nn
   have m := m.step b
   have s := s.step b ap nn2
   have t := ap.box t nn
   have r := ap.box r nn
   have k := k.step b
   have u := ap.box u nn
   have n := ap.box n nn
   have ay := ap.box ay nn
   have a := a.ev ap
   have g := g.ext ap
   refine Xu 2 [(15, .agg #[Vi A.1.1.1, Vi A.1.1.2, Vi A.1.2.1.1, Vi A.1.2.1.2, .bool A.1.2.2.1, .bool A.1.2.2.2]), (16, Vi A.2)] ?_
   obtain ⟨da, cH, cb, aN⟩ := Sa [Vi A.1.1.1, Vi A.1.1.2, Vi A.1.2.1.1, Vi A.1.2.1.2, .bool A.1.2.2.1, .bool A.1.2.2.2] tagg123 ay R R R
   refine Ys da _ _ R cH (I1 ?_)
   have b := Stp.ev' (ls := [[aa], Bk j, [d], [f], [e], [h], [c], [i], o]) aN (Mf 0 R)
   have B := aN.box B (a.apart 5 0 R R R _ mem1)
   have p := aN.box p (a.apart 2 0 R R R _ mem1)
   have m := m.step b
   have s := s.step b aN (a.apart 1 0 R R R)
   have t := aN.box t (a.apart 3 0 R R R _ mem1)
   have r := aN.box r (a.apart 4 0 R R R _ mem1)
   have k := k.step b
   have u := aN.box u (a.apart 6 0 R R R _ mem1)
   have n := aN.box n (a.apart 7 0 R R R _ mem1)
   have a := a.ev aN
   have g := g.then aN (fun F G => .inr (v.at 0 R F G))
   have ay := cb
   refine Xu 1 [(6, Vi A.2)] (Xk (Cr (Rr (Rv [.agg #[Vi A.1.1.1, Vi A.1.1.2, Vi A.1.2.1.1, Vi A.1.2.1.2, .bool A.1.2.2.1, .bool A.1.2.2.2], Vi A.2] ⟨⟨_, R, Lv (Ra (Mo := []) 0 [Vi A.1.1.1, Vi A.1.1.2, Vi A.1.2.1.1, Vi A.1.2.1.2, .bool A.1.2.2.1, .bool A.1.2.2.2] tagg123 ay nn R)⟩, R, T0⟩ ?_))))
   refine I1 (Xu 3 [(7, .tuple #[.agg #[Vi A.1.1.1, Vi A.1.1.2, Vi A.1.2.1.1, Vi A.1.2.1.2, .bool A.1.2.2.1, .bool A.1.2.2.2], Vi A.2]), (11, .agg #[Vi A.1.1.1, Vi A.1.1.2, Vi A.1.2.1.1, Vi A.1.2.1.2, .bool A.1.2.2.1, .bool A.1.2.2.2]), (12, Vi A.2)] (Xa (z := .agg #[Vi 0, Vi 0, Vi 0, Vi 0, .bool false, .bool false]) R R (by kernel_rfl) (fun av db bA a5 aO dC => ?_)))
   replace a5 : db.heap[av]? = some (.cells #[Vi 0, Vi 0, Vi 0, Vi 0, .bool false, .bool false] 123 (0, 0)) := a5
   refine I1 ?_
   have b := Stp.box (ls := [[aa], Bk j, [d], [f], [e], [h], [c], [i], o]) aO bA
   have B := aO.box B nn
   have p := aO.box p nn
   have m := m.step b
   have s := s.step b aO nn2
   have t := aO.box t nn
   have r := aO.box r nn
   have k := k.step b
   have u := aO.box u nn
   have n := aO.box n nn
   have a := a.box aO bA a5
   have v := v.box g.size bA
   have g := g.ext aO
   obtain ⟨dc, cI, cc, aQ⟩ := Sa [Vi A.1.1.1, Vi A.1.1.2, Vi A.1.2.1.1, Vi A.1.2.1.2, .bool A.1.2.2.1, .bool A.1.2.2.2] tagg123 a5 R R R
   refine Ys dc _ _ R cI (I1 ?_)
   have b := Stp.ev' (ls := [[av], [aa], Bk j, [d], [f], [e], [h], [c], [i], o]) aQ (Mf 0 R)
   have B := aQ.box B (a.apart 6 0 R R R _ mem1)
   have p := aQ.box p (a.apart 3 0 R R R _ mem1)
   have m := m.step b
   have s := s.step b aQ (a.apart 2 0 R R R)
   have t := aQ.box t (a.apart 4 0 R R R _ mem1)
   have r := aQ.box r (a.apart 5 0 R R R _ mem1)
   have k := k.step b
   have u := aQ.box u (a.apart 7 0 R R R _ mem1)
   have n := aQ.box n (a.apart 8 0 R R R _ mem1)
   have a := a.ev aQ
   have g := g.then aQ (fun F G => .inr (v.at 0 R F G))
   have a5 := cc
   refine Xu 1 [(6, Vi A.2)] (Xk (Cn [(2, Vp c 0), (5, Vp av 0)] (fun L => ?_)))
   refine Cs (Yg av 0 5 (.bool A.1.2.2.2) R R (Rf tfld123_3 _ _) tcell4 a5 nn R (Xu 2 [(15, .bool (!A.1.2.2.2)), (16, .bool (!A.1.2.2.2))] (Xw 16 (!A.1.2.2.2) R q (fun q => ?_) (fun q => ?_))))
   · refine Yf (Vp av 0) (Vp av 2) R (Rf tfld123_1 _ _) (Yg av 2 3 (Vi A.1.2.1.2) R R (Rf tfld37_1 _ _) tcell3 a5 nn R (Yg c 0 1 (Vi J) R R (Rf tfld42_1 _ _) tcell3 u nn R (Yg c 0 1 (Vi J) R R (Rf tfld42_1 _ _) tcell3 u nn R (Xu 4 [(24, Vi (i64.wrap (J * J))), (25, Bd (A.1.2.1.2 > (i64.wrap (J * J)))), (26, Bd (A.1.2.1.2 > (i64.wrap (J * J)))), (4, Bd (A.1.2.1.2 > (i64.wrap (J * J))))] (Xk (Cn [(4, Bd (A.1.2.1.2 > (i64.wrap (J * J))))] (fun L => ?_)))))))
     refine Cr (Rr (Rv [Bd (A.1.2.1.2 > (i64.wrap (J * J)))] ⟨R, T0⟩ ?_))
     refine I1 (Xk (Cn [(0, (.func (.func 42) #[] #[Vp h 0, Vp c 0])), (3, Vi w), (4, Vi E), (5, Vi (i64.wrap (Int.tdiv (i64.wrap (w + E)) 2))), (15, Bd (A.1.2.1.2 > (i64.wrap (J * J))))] (fun L => ?_)))
     refine Ci (decide (A.1.2.1.2 > (i64.wrap (J * J)))) R q (fun q => ?_) (fun q => ?_)
     · refine Cp (Xu 2 [(16, Vi (i64.wrap (Int.tdiv (i64.wrap (w + E)) 2))), (4, Vi (i64.wrap (Int.tdiv (i64.wrap (w + E)) 2)))] (Xe R (Kl ?_)))
       obtain rfl := Sj q
       have U := a.pk [2, 3, 4, 5, 6, 7, 8, 9] [Bk j, [d], [f], [e], [h], [c], [i], o] R
       have N := Pk (ls := [[av], [aa], Bk j, [d], [f], [e], [h], [c], [i], o]) [2, 3, 4, 5, 6, 7, 8, 9] [Bk j, [d], [f], [e], [h], [c], [i], o] R
       have m := m.sub N
       have s := s.sub N
       have k := k.sub N
       have a := U
       have v := v.pk [2, 3, 4, 5, 6, 7, 8] [Bk j, [d], [f], [e], [h], [c], [i]] R
       exact Kt ⟨(a8, (al.set (Int.toNat I) (i64.wrap (Int.tdiv (i64.wrap (w + E)) 2))), w, i64.wrap (Int.tdiv (i64.wrap (w + E)) 2)), ⟨R, R, R, T0⟩, ⟨a7, g, a, v, m, s, p, t, k, r, B, u, n⟩, Ns _⟩
     refine Cp (Xu 3 [(17, Vi (i64.wrap (Int.tdiv (i64.wrap (w + E)) 2))), (18, Vi (i64.wrap ((i64.wrap (Int.tdiv (i64.wrap (w + E)) 2)) + 1))), (3, Vi (i64.wrap ((i64.wrap (Int.tdiv (i64.wrap (w + E)) 2)) + 1)))] (Xe R (Kl ?_)))
     obtain rfl := Sj q
     have U := a.pk [2, 3, 4, 5, 6, 7, 8, 9] [Bk j, [d], [f], [e], [h], [c], [i], o] R
     have N := Pk (ls := [[av], [aa], Bk j, [d], [f], [e], [h], [c], [i], o]) [2, 3, 4, 5, 6, 7, 8, 9] [Bk j, [d], [f], [e], [h], [c], [i], o] R
     have m := m.sub N
     have s := s.sub N
     have k := k.sub N
     have a := U
     have v := v.pk [2, 3, 4, 5, 6, 7, 8] [Bk j, [d], [f], [e], [h], [c], [i]] R
     exact Kt ⟨(a8, (al.set (Int.toNat I) (i64.wrap (Int.tdiv (i64.wrap (w + E)) 2))), i64.wrap ((i64.wrap (Int.tdiv (i64.wrap (w + E)) 2)) + 1), E), ⟨R, R, R, T0⟩, ⟨a7, g, a, v, m, s, p, t, k, r, B, u, n⟩, Ns _⟩
   refine Xu 11 [(17, U0), (18, U0), (19, U0), (20, U0), (21, U0), (22, U0), (23, U0), (24, U0), (25, U0), (26, .bool false), (4, .bool false)] (Xk (Cn [(4, .bool false)] (fun L => ?_)))
   refine Cr (Rr (Rv [.bool false] ⟨R, T0⟩ ?_))
   refine I1 (Xk (Cn [(0, (.func (.func 42) #[] #[Vp h 0, Vp c 0])), (3, Vi w), (4, Vi E), (5, Vi (i64.wrap (Int.tdiv (i64.wrap (w + E)) 2))), (15, .bool false)] (fun L => ?_)))
   refine c_false R (Cp (Xu 3 [(17, Vi (i64.wrap (Int.tdiv (i64.wrap (w + E)) 2))), (18, Vi (i64.wrap ((i64.wrap (Int.tdiv (i64.wrap (w + E)) 2)) + 1))), (3, Vi (i64.wrap ((i64.wrap (Int.tdiv (i64.wrap (w + E)) 2)) + 1)))] (Xe R (Kl ?_))))
   obtain rfl := Sj q
   have U := a.pk [2, 3, 4, 5, 6, 7, 8, 9] [Bk j, [d], [f], [e], [h], [c], [i], o] R
   have N := Pk (ls := [[av], [aa], Bk j, [d], [f], [e], [h], [c], [i], o]) [2, 3, 4, 5, 6, 7, 8, 9] [Bk j, [d], [f], [e], [h], [c], [i], o] R
   have m := m.sub N
   have s := s.sub N
   have k := k.sub N
   have a := U
   have v := v.pk [2, 3, 4, 5, 6, 7, 8] [Bk j, [d], [f], [e], [h], [c], [i]] R
   exact Kt ⟨(a8, (al.set (Int.toNat I) (i64.wrap (Int.tdiv (i64.wrap (w + E)) 2))), i64.wrap ((i64.wrap (Int.tdiv (i64.wrap (w + E)) 2)) + 1), E), ⟨R, R, R, T0⟩, ⟨a7, g, a, v, m, s, p, t, k, r, B, u, n⟩, Ns _⟩
 refine Ce (Ke ?_)
 obtain rfl := Sj q
 have bC := Sj a7
 subst bC
 have q := bY
 refine Ke (Ki (Kt (Cn [(3, Vi w)] (fun L => ?_))))
 refine Cs (Xu 2 [(19, Vi w), (2, Vi w)] (Xk (Cr (Rr (Rv [Vi w] ⟨R, T0⟩ ?_)))))
 refine I1 (Xu 2 [(47, Vi (i64.wrap (w - 1))), (14, Vi (i64.wrap (w - 1)))] (Xk (Cn [(8, Vp i 0), (13, Vi D), (14, Vi (i64.wrap (w - 1)))] (fun L => ?_))))
 refine Cq (Cs (Xu 3 [(48, Vi D), (49, Vi (i64.wrap (w - 1))), (50, Bd (D > (i64.wrap (w - 1))))] (Xk (Ci (decide (D > (i64.wrap (w - 1)))) R q (fun q => ?_) (fun q => ?_)))))
 · refine Cs (Xd (vs := []) (.agg #[Vi 0, Vi 0]) R R R (fun _ _ => by kernel_rfl) ?_)
   obtain ⟨dd, cJ, cd, cj⟩ := Sa [Vi 0, Vi 0] tagg37 n R R R
   refine Ys dd _ _ R cJ (I1 ?_)
   have g := g.then cj (fun F G => .inr (v.at 6 R F G))
   have n := cd
   refine Xu 1 [(9, Vi 15)] (Xk (Cr (Kr (Rr (Rv [.agg #[Vi 0, Vi 0], Vi 15] ⟨⟨_, R, Lv (Ra (Mo := []) 0 [Vi 0, Vi 0] tagg37 n nn R)⟩, R, T0⟩ ?_)))))
   obtain rfl := Sj q
   exact ⟨R, g⟩
 refine Ck (Kt (Cs (Xu 2 [(52, Vi D), (53, Vi (i64.wrap (w - 1)))] (Xd (vs := [(0, Vi D), (1, Vi (i64.wrap (w - 1)))]) (.agg #[Vi D, Vi (i64.wrap (w - 1))]) R R R (fun _ _ => by kernel_rfl) ?_))))
 obtain ⟨de, cK, ce, ck⟩ := Sa [Vi D, Vi (i64.wrap (w - 1))] tagg37 n R R R
 refine Ys de _ _ R cK (I1 ?_)
 have g := g.then ck (fun F G => .inr (v.at 6 R F G))
 have n := ce
 refine Xu 1 [(9, Vi 0)] (Xk (Cr (Rr (Rv [.agg #[Vi D, Vi (i64.wrap (w - 1))], Vi 0] ⟨⟨_, R, Lv (Ra (Mo := []) 0 [Vi D, Vi (i64.wrap (w - 1))] tagg37 n nn R)⟩, R, T0⟩ ?_))))
 obtain rfl := Sj q
 exact ⟨R, g⟩
def retarder_Choose (c : List (Int × Int × Int × Int × Int)) (d : Int) (e : Int) (f : List (Int × Int)) (g : Int) (a : List Int) (h : Int) (i : Int) : Option (Int × Int) :=
((retarder_Window c d e f g a (i64.wrap (((a).length : Int) - 1)) h i).bind fun b =>
some (b.1.2, b.2))
theorem retarder_Choose_w (t u n o p l m k q e f c r s J d g) (w : MS d [g]) (x : SlR (eProd eI (eIt4)) d (fl [g]) t u n) (y : SlR (eProd eI eI) d (fl [g]) l m k) (A : SlR eI d (fl [g]) e f c) (F : retarder_Choose n o p k q c r s = some J) : CallVC Tryz.prog 12 [Vl t n u, .agg #[Vi o, Vi p, Vl l k m, Vi q, Vl e c f], .agg #[Vi r, Vi s]] d fun L ad => L = .tuple #[Vi J.1, Vi J.2] ∧ Ev [] d ad := by
 refine Cv hmx Tryz.func12 (by kernel_rfl) R (rs := [.tmp 6, .tmp 7]) R (by kernel_rfl) (args := [Vl t n u, .agg #[Vi o, Vi p, Vl l k m, Vi q, Vl e c f], .agg #[Vi r, Vi s]]) R ?_
 have b : Ev [] d d := Ev.refl _ _
 have i : FR d.heap.size [] := FR.nil _
 refine Cs (Yb _ R (fun B ag H h G aj => ?_))
 replace h : ag.heap[B]? = some (.cells #[Vi o, Vi p, Vl l k m, Vi q, Vl e c f] 40 (0, 0)) := h
 refine I1 ?_
 have j := Stp.box (ls := [g]) G H
 have x := x.step j
 have y := y.step j
 have A := A.step j
 have w := w.box G H h
 have i := i.box b.size H
 have b := b.ext G
 refine Yb _ R (fun K N I C D ak => ?_)
 replace C : N.heap[K]? = some (.cells #[Vi r, Vi s] 42 (0, 0)) := C
 refine I1 ?_
 have j := Stp.box (ls := [[B], g]) D I
 have x := x.step j
 have y := y.step j
 have A := A.step j
 have h := D.box h nn
 have w := w.box D I C
 have i := i.box b.size I
 have b := b.ext D
 refine Xu 2 [(6, Vi 0), (7, Vi 0)] (Xk (Cs (Xu 1 [(11, Vl t n u)] (Yl _ _ R (Ra 0 [Vi o, Vi p, Vl l k m, Vi q, Vl e c f] tagg40 h nn R) (Yg B 0 4 (Vl e c f) R R (Rf tfld40_3 _ _) tcell22 h nn R (Xn (vs := [Vl e c f]) (Vi ((c).length : Int)) R R R (Rl tsl22 _ _ _ _ _) (Xu 1 [(16, Vi (i64.wrap (((c).length : Int) - 1)))] (Yl _ _ R (Ra 0 [Vi r, Vi s] tagg42 C nn R) ?_))))))))
 obtain ⟨a, ac, F⟩ := Bs F
 have U := retarder_Window_w t u n o p l m k q e f c (i64.wrap (((c).length : Int) - 1)) r s _ N (fl [[K], [B], g]) (MS.fold (P := []) w) (x.sub fl1) (y.sub fl1) (A.sub fl1) ac
 refine Xc 23 #[] #[] _ _ R R R R U ?_
 rintro L al ⟨rfl, Z⟩
 refine I1 ?_
 have b := b.ext Z
 refine Xu 3 [(10, .tuple #[.agg #[Vi a.1.1, Vi a.1.2], Vi a.2]), (19, .agg #[Vi a.1.1, Vi a.1.2]), (20, Vi a.2)] (Xa (z := .agg #[Vi 0, Vi 0]) R R (by kernel_rfl) (fun E ae aa v X ai => ?_))
 replace v : ae.heap[E]? = some (.cells #[Vi 0, Vi 0] 37 (0, 0)) := v
 refine I1 ?_
 have i := i.box b.size aa
 have b := b.ext X
 obtain ⟨af, ab, S, Y⟩ := Sa [Vi a.1.1, Vi a.1.2] tagg37 v R R R
 refine Ys af _ _ R ab (I1 ?_)
 have b := b.then Y (fun O Q => .inr (i.at 0 R O Q))
 have v := S
 refine Xu 1 [(9, Vi a.2)] (Xk (Cn [(8, Vp E 0), (9, Vi a.2)] (fun ah => ?_)))
 refine Cs (Yg E 0 1 (Vi a.1.2) R R (Rf tfld37_1 _ _) tcell3 v nn R (Xu 3 [(23, Vi a.2), (6, Vi a.1.2), (7, Vi a.2)] (Xk (Cr (Rr (Rv [Vi a.1.2, Vi a.2] ⟨R, R, T0⟩ ?_))))))
 obtain rfl := Sj F
 exact ⟨R, b⟩
end Go.Proofs.YtfhkfjankgikcaaGreat
