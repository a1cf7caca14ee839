
/- Walks, printed by program: each function returns what the partial function of the same name returns. Conditions: those of each theorem. -/
import Derived.Test.YtfhkfjankgikcaaGreatGT
set_option linter.unusedVariables false
set_option linter.unusedSimpArgs false
set_option maxRecDepth 4000
namespace Go.Proofs.YtfhkfjankgikcaaGreat
open Go Go.V Go.Proofs Go.IntKind
def interval_inside (a : Int) : Option Bool :=
(if (decide (a ≥ (-1000000000000))) = true then
some (decide (a ≤ 1000000000000))
else
some false)
theorem interval_inside_w (a f c) (b : interval_inside a = some f) : CallVC Tryz.prog 66 [Vi a] c fun h i => h = .bool f ∧ Ev [] c i := by
 refine Cv hmx Tryz.func66 (by kernel_rfl) R (rs := [.tmp 2]) R (by kernel_rfl) (args := [Vi a]) R ?_
 have d : Ev [] c c := Ev.refl _ _
 have k : MS c [[]] := ⟨List.pairwise_singleton _ _, fun l e j g => by simp only [List.mem_singleton] at e; subst e; cases g⟩
 refine Cs (Xu 1 [(2, .bool false)] (Xk (Cs (Xu 3 [(3, Vi a), (4, Bd (a ≥ (-1000000000000))), (5, Bd (a ≥ (-1000000000000)))] (Xw 5 (decide (a ≥ (-1000000000000))) R b (fun b => ?_) (fun b => ?_))))))
 · refine Xu 4 [(6, Vi a), (7, Bd (a ≤ 1000000000000)), (8, Bd (a ≤ 1000000000000)), (2, Bd (a ≤ 1000000000000))] (Xk (Cr (Rr (Rv [Bd (a ≤ 1000000000000)] ⟨R, T0⟩ ?_))))
   obtain rfl := Sj b
   exact ⟨R, d⟩
 refine Xu 4 [(6, U0), (7, U0), (8, .bool false), (2, .bool false)] (Xk (Cr (Rr (Rv [.bool false] ⟨R, T0⟩ ?_))))
 obtain rfl := Sj b
 exact ⟨R, d⟩
def interval_Valid (a : Int) (b : Int) : Option Bool :=
(if (decide (a ≤ b)) = true then
((interval_inside a).bind fun c =>
(if c = true then
((interval_inside b).bind fun d =>
some d)
else
some false))
else
some false)
theorem interval_Valid_w (b c p g) (a : interval_Valid b c = some p) : CallVC Tryz.prog 63 [.agg #[Vi b, Vi c]] g fun k u => k = .bool p ∧ Ev [] g u := by
 refine Cv hmx Tryz.func63 (by kernel_rfl) R (rs := [.tmp 2]) R (by kernel_rfl) (args := [.agg #[Vi b, Vi c]]) R ?_
 have d : Ev [] g g := Ev.refl _ _
 have x : MS g [[]] := ⟨List.pairwise_singleton _ _, fun A o w r => by simp only [List.mem_singleton] at o; subst o; cases r⟩
 refine Cs (Yb _ R (fun f q y e s z => ?_))
 replace e : q.heap[f]? = some (.cells #[Vi b, Vi c] 37 (0, 0)) := e
 refine I1 ?_
 have d := d.ext s
 refine Xu 1 [(2, .bool false)] (Xk (Cs (Yg f 0 0 (Vi b) R R (Rf tfld37_0 _ _) tcell3 e nn R (Yg f 0 1 (Vi c) R R (Rf tfld37_1 _ _) tcell3 e nn R (Xu 2 [(7, Bd (b ≤ c)), (8, Bd (b ≤ c))] (Xw 8 (decide (b ≤ c)) R a (fun a => ?_) (fun a => ?_)))))))
 · refine Yg f 0 0 (Vi b) R R (Rf tfld37_0 _ _) tcell3 e nn R ?_
   obtain ⟨l, j, a⟩ := Bs a
   have i := interval_inside_w b _ q j
   refine Xc 66 #[] #[] _ _ R R R R i ?_
   rintro k v ⟨rfl, n⟩
   refine I1 ?_
   have e := n.box e nn
   have d := d.ext n
   refine Xu 2 [(12, .bool l), (13, .bool l)] (Xw 13 l R a (fun a => ?_) (fun a => ?_))
   · refine Yg f 0 1 (Vi c) R R (Rf tfld37_1 _ _) tcell3 e nn R ?_
     obtain ⟨h, j, a⟩ := Bs a
     have i := interval_inside_w c _ v j
     refine Xc 66 #[] #[] _ _ R R R R i ?_
     rintro k B ⟨rfl, t⟩
     refine I1 ?_
     have d := d.ext t
     refine Xu 2 [(17, .bool h), (2, .bool h)] (Xk (Cn [(2, .bool h)] (fun m => ?_)))
     refine Cr (Rr (Rv [.bool h] ⟨R, T0⟩ ?_))
     obtain rfl := Sj a
     exact ⟨R, d⟩
   refine Xu 5 [(14, U0), (15, U0), (16, U0), (17, .bool false), (2, .bool false)] (Xk (Cn [(2, .bool false)] (fun m => ?_)))
   refine Cr (Rr (Rv [.bool false] ⟨R, T0⟩ ?_))
   obtain rfl := Sj a
   exact ⟨R, d⟩
 refine Xu 10 [(9, U0), (10, U0), (11, U0), (12, .bool false), (13, .bool false), (14, U0), (15, U0), (16, U0), (17, .bool false), (2, .bool false)] (Xk (Cn [(2, .bool false)] (fun m => ?_)))
 refine Cr (Rr (Rv [.bool false] ⟨R, T0⟩ ?_))
 obtain rfl := Sj a
 exact ⟨R, d⟩
def interval_down (b : Int) (a : Int) : Option Int :=
(if a ≠ 0 then
(if a ≠ 0 then
(if ((Int.tmod b a) != 0) = true then
(if ((decide ((Int.tmod b a) < 0)) != (decide (a < 0))) = true then
some (i64.wrap ((i64.wrap (Int.tdiv b a)) - 1))
else
some (i64.wrap (Int.tdiv b a)))
else
some (i64.wrap (Int.tdiv b a)))
else none)
else none)
theorem interval_down_w (b a g d) (c : interval_down b a = some g) : CallVC Tryz.prog 65 [Vi b, Vi a] d fun j k => j = Vi g ∧ Ev [] d k := by
 refine Cv hmx Tryz.func65 (by kernel_rfl) R (rs := [.tmp 4]) R (by kernel_rfl) (args := [Vi b, Vi a]) R ?_
 have e : Ev [] d d := Ev.refl _ _
 have m : MS d [[]] := ⟨List.pairwise_singleton _ _, fun n f l i => by simp only [List.mem_singleton] at f; subst f; cases i⟩
 refine Cs (Xu 1 [(4, Vi 0)] (Xk (Cq (Cd [] [(0, false), (1, false), (2, false), (3, false), (4, false), (5, false), (6, false), (7, false)] _ (by kernel_rfl) R ?_))))
 have e := e.ext (Ev.drew d)
 refine Xu 2 [(7, Vi b), (8, Vi a)] (x_binop (Vi (i64.wrap (Int.tdiv b a))) (Vi b) (Vi a) R R R R (vb_quo (Gl c)) ?_)
 have c := Gr c
 refine Xu 2 [(10, Vi b), (11, Vi a)] (x_binop (Vi (Int.tmod b a)) (Vi b) (Vi a) R R R R (vb_rem (Gl c)) ?_)
 have c := Gr c
 refine Xu 2 [(5, Vi (i64.wrap (Int.tdiv b a))), (6, Vi (Int.tmod b a))] (Xk (Cq (Cs (Xu 3 [(13, Vi (Int.tmod b a)), (14, .bool ((Int.tmod b a) != 0)), (15, .bool ((Int.tmod b a) != 0))] (Xw 15 ((Int.tmod b a) != 0) R c (fun c => ?_) (fun c => ?_))))))
 · refine Xu 4 [(16, Vi (Int.tmod b a)), (17, Bd ((Int.tmod b a) < 0)), (18, Vi a), (19, Bd (a < 0))] (x_binop (.bool ((decide ((Int.tmod b a) < 0)) != (decide (a < 0)))) (Bd ((Int.tmod b a) < 0)) (Bd (a < 0)) R R R R (vb_boolneq tbool4) (Xu 1 [(21, .bool ((decide ((Int.tmod b a) < 0)) != (decide (a < 0))))] (Xk (Cn [(5, Vi (i64.wrap (Int.tdiv b a))), (21, .bool ((decide ((Int.tmod b a) < 0)) != (decide (a < 0))))] (fun h => ?_)))))
   refine Ci ((decide ((Int.tmod b a) < 0)) != (decide (a < 0))) R c (fun c => ?_) (fun c => ?_)
   · refine Cp (Xu 3 [(22, Vi (i64.wrap (Int.tdiv b a))), (23, Vi (i64.wrap ((i64.wrap (Int.tdiv b a)) - 1))), (5, Vi (i64.wrap ((i64.wrap (Int.tdiv b a)) - 1)))] (Xk (Cs (Xu 2 [(24, Vi (i64.wrap ((i64.wrap (Int.tdiv b a)) - 1))), (4, Vi (i64.wrap ((i64.wrap (Int.tdiv b a)) - 1)))] (Xk (Cr (Rr (Rv [Vi (i64.wrap ((i64.wrap (Int.tdiv b a)) - 1))] ⟨R, T0⟩ ?_))))))))
     obtain rfl := Sj c
     exact ⟨R, e⟩
   refine Ck (Kt (Cs (Xu 2 [(24, Vi (i64.wrap (Int.tdiv b a))), (4, Vi (i64.wrap (Int.tdiv b a)))] (Xk (Cr (Rr (Rv [Vi (i64.wrap (Int.tdiv b a))] ⟨R, T0⟩ ?_)))))))
   obtain rfl := Sj c
   exact ⟨R, e⟩
 refine Xu 6 [(16, U0), (17, U0), (18, U0), (19, U0), (20, U0), (21, .bool false)] (Xk (Cn [(5, Vi (i64.wrap (Int.tdiv b a))), (21, .bool false)] (fun h => ?_)))
 refine c_false R (Ck (Kt (Cs (Xu 2 [(24, Vi (i64.wrap (Int.tdiv b a))), (4, Vi (i64.wrap (Int.tdiv b a)))] (Xk (Cr (Rr (Rv [Vi (i64.wrap (Int.tdiv b a))] ⟨R, T0⟩ ?_))))))))
 obtain rfl := Sj c
 exact ⟨R, e⟩
def interval_Floor (c : Int) (a : Int) : Option (Int × Int) :=
(if (a == 0) = true then
some (0, 5)
else
((interval_down c a).bind fun b =>
((interval_inside b).bind fun d =>
(if d = true then
some (b, 0)
else
some (0, 4)))))
theorem interval_Floor_w (f b i e) (a : interval_Floor f b = some i) : CallVC Tryz.prog 54 [Vi f, Vi b] e fun j p => j = .tuple #[Vi i.1, Vi i.2] ∧ Ev [] e p := by
 refine Cv hmx Tryz.func54 (by kernel_rfl) R (rs := [.tmp 4, .tmp 5]) R (by kernel_rfl) (args := [Vi f, Vi b]) R ?_
 have c : Ev [] e e := Ev.refl _ _
 have t : MS e [[]] := ⟨List.pairwise_singleton _ _, fun u k s m => by simp only [List.mem_singleton] at k; subst k; cases m⟩
 refine Cs (Xu 2 [(4, Vi 0), (5, Vi 0)] (Xk (Cq (Cs (Xu 2 [(7, Vi b), (8, .bool (b == 0))] (Xk (Ci (b == 0) R a (fun a => ?_) (fun a => ?_))))))))
 · refine Cs (Xu 2 [(4, Vi 0), (5, Vi 5)] (Xk (Cr (Kr (Rr (Rv [Vi 0, Vi 5] ⟨R, R, T0⟩ ?_))))))
   obtain rfl := Sj a
   exact ⟨R, c⟩
 refine Ck (Kt (Cq (Cs (Xu 2 [(9, Vi f), (10, Vi b)] ?_))))
 obtain ⟨d, h, a⟩ := Bs a
 have g := interval_down_w f b _ e h
 refine Xc 65 #[] #[] _ _ R R R R g ?_
 rintro j q ⟨rfl, n⟩
 refine I1 ?_
 have c := c.ext n
 refine Xu 1 [(6, Vi d)] (Xk (Cs (Xu 1 [(12, Vi d)] ?_)))
 obtain ⟨r, h, a⟩ := Bs a
 have g := interval_inside_w d _ q h
 refine Xc 66 #[] #[] _ _ R R R R g ?_
 rintro j v ⟨rfl, o⟩
 refine I1 ?_
 have c := c.ext o
 refine Xk (Ci r R a (fun a => ?_) (fun a => ?_))
 · refine Cs (Xu 3 [(14, Vi d), (4, Vi d), (5, Vi 0)] (Xk (Cn [(4, Vi d), (5, Vi 0)] (fun l => ?_))))
   refine Cr (Kr (Rr (Rv [Vi d, Vi 0] ⟨R, R, T0⟩ ?_)))
   obtain rfl := Sj a
   exact ⟨R, c⟩
 refine Ck (Kt (Cs (Xu 2 [(4, Vi 0), (5, Vi 4)] (Xk (Cn [(4, Vi 0), (5, Vi 4)] (fun l => ?_))))))
 refine Cr (Rr (Rv [Vi 0, Vi 4] ⟨R, R, T0⟩ ?_))
 obtain rfl := Sj a
 exact ⟨R, c⟩
def interval_up (b : Int) (a : Int) : Option Int :=
(if a ≠ 0 then
(if a ≠ 0 then
(if ((Int.tmod b a) != 0) = true then
(if ((decide ((Int.tmod b a) < 0)) == (decide (a < 0))) = true then
some (i64.wrap ((i64.wrap (Int.tdiv b a)) + 1))
else
some (i64.wrap (Int.tdiv b a)))
else
some (i64.wrap (Int.tdiv b a)))
else none)
else none)
theorem interval_up_w (b a g d) (c : interval_up b a = some g) : CallVC Tryz.prog 67 [Vi b, Vi a] d fun j k => j = Vi g ∧ Ev [] d k := by
 refine Cv hmx Tryz.func67 (by kernel_rfl) R (rs := [.tmp 4]) R (by kernel_rfl) (args := [Vi b, Vi a]) R ?_
 have e : Ev [] d d := Ev.refl _ _
 have m : MS d [[]] := ⟨List.pairwise_singleton _ _, fun n f l i => by simp only [List.mem_singleton] at f; subst f; cases i⟩
 refine Cs (Xu 1 [(4, Vi 0)] (Xk (Cq (Cd [] [(0, false), (1, false), (2, false), (3, false), (4, false), (5, false), (6, false), (7, false)] _ (by kernel_rfl) R ?_))))
 have e := e.ext (Ev.drew d)
 refine Xu 2 [(7, Vi b), (8, Vi a)] (x_binop (Vi (i64.wrap (Int.tdiv b a))) (Vi b) (Vi a) R R R R (vb_quo (Gl c)) ?_)
 have c := Gr c
 refine Xu 2 [(10, Vi b), (11, Vi a)] (x_binop (Vi (Int.tmod b a)) (Vi b) (Vi a) R R R R (vb_rem (Gl c)) ?_)
 have c := Gr c
 refine Xu 2 [(5, Vi (i64.wrap (Int.tdiv b a))), (6, Vi (Int.tmod b a))] (Xk (Cq (Cs (Xu 3 [(13, Vi (Int.tmod b a)), (14, .bool ((Int.tmod b a) != 0)), (15, .bool ((Int.tmod b a) != 0))] (Xw 15 ((Int.tmod b a) != 0) R c (fun c => ?_) (fun c => ?_))))))
 · refine Xu 4 [(16, Vi (Int.tmod b a)), (17, Bd ((Int.tmod b a) < 0)), (18, Vi a), (19, Bd (a < 0))] (x_binop (.bool ((decide ((Int.tmod b a) < 0)) == (decide (a < 0)))) (Bd ((Int.tmod b a) < 0)) (Bd (a < 0)) R R R R (vb_booleql tbool4) (Xu 1 [(21, .bool ((decide ((Int.tmod b a) < 0)) == (decide (a < 0))))] (Xk (Cn [(5, Vi (i64.wrap (Int.tdiv b a))), (21, .bool ((decide ((Int.tmod b a) < 0)) == (decide (a < 0))))] (fun h => ?_)))))
   refine Ci ((decide ((Int.tmod b a) < 0)) == (decide (a < 0))) R c (fun c => ?_) (fun c => ?_)
   · refine Cp (Xu 3 [(22, Vi (i64.wrap (Int.tdiv b a))), (23, Vi (i64.wrap ((i64.wrap (Int.tdiv b a)) + 1))), (5, Vi (i64.wrap ((i64.wrap (Int.tdiv b a)) + 1)))] (Xk (Cs (Xu 2 [(24, Vi (i64.wrap ((i64.wrap (Int.tdiv b a)) + 1))), (4, Vi (i64.wrap ((i64.wrap (Int.tdiv b a)) + 1)))] (Xk (Cr (Rr (Rv [Vi (i64.wrap ((i64.wrap (Int.tdiv b a)) + 1))] ⟨R, T0⟩ ?_))))))))
     obtain rfl := Sj c
     exact ⟨R, e⟩
   refine Ck (Kt (Cs (Xu 2 [(24, Vi (i64.wrap (Int.tdiv b a))), (4, Vi (i64.wrap (Int.tdiv b a)))] (Xk (Cr (Rr (Rv [Vi (i64.wrap (Int.tdiv b a))] ⟨R, T0⟩ ?_)))))))
   obtain rfl := Sj c
   exact ⟨R, e⟩
 refine Xu 6 [(16, U0), (17, U0), (18, U0), (19, U0), (20, U0), (21, .bool false)] (Xk (Cn [(5, Vi (i64.wrap (Int.tdiv b a))), (21, .bool false)] (fun h => ?_)))
 refine c_false R (Ck (Kt (Cs (Xu 2 [(24, Vi (i64.wrap (Int.tdiv b a))), (4, Vi (i64.wrap (Int.tdiv b a)))] (Xk (Cr (Rr (Rv [Vi (i64.wrap (Int.tdiv b a))] ⟨R, T0⟩ ?_))))))))
 obtain rfl := Sj c
 exact ⟨R, e⟩
def interval_Ceil (c : Int) (a : Int) : Option (Int × Int) :=
(if (a == 0) = true then
some (0, 5)
else
((interval_up c a).bind fun b =>
((interval_inside b).bind fun d =>
(if d = true then
some (b, 0)
else
some (0, 4)))))
theorem interval_Ceil_w (f b i e) (a : interval_Ceil f b = some i) : CallVC Tryz.prog 55 [Vi f, Vi b] e fun j p => j = .tuple #[Vi i.1, Vi i.2] ∧ Ev [] e p := by
 refine Cv hmx Tryz.func55 (by kernel_rfl) R (rs := [.tmp 4, .tmp 5]) R (by kernel_rfl) (args := [Vi f, Vi b]) R ?_
 have c : Ev [] e e := Ev.refl _ _
 have t : MS e [[]] := ⟨List.pairwise_singleton _ _, fun u k s m => by simp only [List.mem_singleton] at k; subst k; cases m⟩
 refine Cs (Xu 2 [(4, Vi 0), (5, Vi 0)] (Xk (Cq (Cs (Xu 2 [(7, Vi b), (8, .bool (b == 0))] (Xk (Ci (b == 0) R a (fun a => ?_) (fun a => ?_))))))))
 · refine Cs (Xu 2 [(4, Vi 0), (5, Vi 5)] (Xk (Cr (Kr (Rr (Rv [Vi 0, Vi 5] ⟨R, R, T0⟩ ?_))))))
   obtain rfl := Sj a
   exact ⟨R, c⟩
 refine Ck (Kt (Cq (Cs (Xu 2 [(9, Vi f), (10, Vi b)] ?_))))
 obtain ⟨d, h, a⟩ := Bs a
 have g := interval_up_w f b _ e h
 refine Xc 67 #[] #[] _ _ R R R R g ?_
 rintro j q ⟨rfl, n⟩
 refine I1 ?_
 have c := c.ext n
 refine Xu 1 [(6, Vi d)] (Xk (Cs (Xu 1 [(12, Vi d)] ?_)))
 obtain ⟨r, h, a⟩ := Bs a
 have g := interval_inside_w d _ q h
 refine Xc 66 #[] #[] _ _ R R R R g ?_
 rintro j v ⟨rfl, o⟩
 refine I1 ?_
 have c := c.ext o
 refine Xk (Ci r R a (fun a => ?_) (fun a => ?_))
 · refine Cs (Xu 3 [(14, Vi d), (4, Vi d), (5, Vi 0)] (Xk (Cn [(4, Vi d), (5, Vi 0)] (fun l => ?_))))
   refine Cr (Kr (Rr (Rv [Vi d, Vi 0] ⟨R, R, T0⟩ ?_)))
   obtain rfl := Sj a
   exact ⟨R, c⟩
 refine Ck (Kt (Cs (Xu 2 [(4, Vi 0), (5, Vi 4)] (Xk (Cn [(4, Vi 0), (5, Vi 4)] (fun l => ?_))))))
 refine Cr (Rr (Rv [Vi 0, Vi 4] ⟨R, R, T0⟩ ?_))
 obtain rfl := Sj a
 exact ⟨R, c⟩
def interval_root_L1 (c : Int) (d : Int × Int) : Option (Step (Int × Int) Int) :=
match d with
| (a, b) =>
(if (decide ((i64.wrap (b - a)) > 1)) = true then
(if (decide ((i64.wrap ((i64.wrap (Int.tdiv (i64.wrap (a + b)) 2)) * (i64.wrap (Int.tdiv (i64.wrap (a + b)) 2)))) ≤ c)) = true then
some (.next (i64.wrap (Int.tdiv (i64.wrap (a + b)) 2), b))
else
some (.next (a, i64.wrap (Int.tdiv (i64.wrap (a + b)) 2))))
else
some (.done a))
def interval_root (c : Int) : Option Int :=
((loop (interval_root_L1 c) (0, 1000001)).bind fun a => match a with
| b => some b)
theorem interval_root_w (d p e) (c : interval_root d = some p) : CallVC Tryz.prog 64 [Vi d] e fun v l => v = Vi p ∧ Ev [] e l := by
 refine Cv hmx Tryz.func64 (by kernel_rfl) R (rs := [.tmp 2]) R (by kernel_rfl) (args := [Vi d]) R ?_
 have h : Ev [] e e := Ev.refl _ _
 have k : MS e [[]] := ⟨List.pairwise_singleton _ _, fun x o w s => by simp only [List.mem_singleton] at o; subst o; cases s⟩
 have j : FR e.heap.size [] := FR.nil _
 refine Cs (Xu 1 [(2, Vi 0)] (Xk (Cs (Xu 2 [(3, Vi 0), (4, Vi 1000001)] (Xk (Cq (Cb ?_)))))))
 obtain ⟨q, m, r⟩ := Bs c
 obtain ⟨g, m⟩ := Lo m
 refine Cl (Lr hmx (σ := Nat × Int × Int) (fun i => match i with | (_, a, b) => [(0, Vi d), (3, Vi a), (4, Vi b)]) (fun i l => match i with | (u, a, b) => loopN (interval_root_L1 d) u (a, b) = some q ∧ Ev [] e l ∧ MS l [[]] ∧ FR e.heap.size []) (fun i => i.1) (g, 0, 1000001) ⟨R, R, R, T0⟩ ⟨m, h, k, j⟩ ?_)
 rintro ⟨g, a, b⟩ n z ⟨f, h, k, j⟩
 rcases g with _ | g
 · exact (Lz f).elim
 obtain ⟨y, c, f⟩ := Bs f
 refine Cq (Cs (Xu 4 [(6, Vi b), (7, Vi a), (8, Vi (i64.wrap (b - a))), (9, Bd ((i64.wrap (b - a)) > 1))] (Xk (Cn [(0, Vi d), (3, Vi a), (4, Vi b), (9, Bd ((i64.wrap (b - a)) > 1))] (fun n => ?_)))))
 refine Ci (decide ((i64.wrap (b - a)) > 1)) R c (fun c => ?_) (fun c => ?_)
 · refine Ck (Kt (Cb (Cs (Xu 5 [(10, Vi a), (11, Vi b), (12, Vi (i64.wrap (a + b))), (13, Vi (i64.wrap (Int.tdiv (i64.wrap (a + b)) 2))), (5, Vi (i64.wrap (Int.tdiv (i64.wrap (a + b)) 2)))] (Xk (Cs (Xu 5 [(14, Vi (i64.wrap (Int.tdiv (i64.wrap (a + b)) 2))), (15, Vi (i64.wrap (Int.tdiv (i64.wrap (a + b)) 2))), (16, Vi (i64.wrap ((i64.wrap (Int.tdiv (i64.wrap (a + b)) 2)) * (i64.wrap (Int.tdiv (i64.wrap (a + b)) 2))))), (17, Vi d), (18, .bool (decide ((i64.wrap ((i64.wrap (Int.tdiv (i64.wrap (a + b)) 2)) * (i64.wrap (Int.tdiv (i64.wrap (a + b)) 2)))) ≤ d)))] (Xk (Ci (decide ((i64.wrap ((i64.wrap (Int.tdiv (i64.wrap (a + b)) 2)) * (i64.wrap (Int.tdiv (i64.wrap (a + b)) 2)))) ≤ d)) R c (fun c => ?_) (fun c => ?_))))))))))
   · refine Cp (Xu 2 [(19, Vi (i64.wrap (Int.tdiv (i64.wrap (a + b)) 2))), (3, Vi (i64.wrap (Int.tdiv (i64.wrap (a + b)) 2)))] (Xe R (Kl ?_)))
     obtain rfl := Sj c
     exact Kt ⟨(g, i64.wrap (Int.tdiv (i64.wrap (a + b)) 2), b), ⟨R, R, R, T0⟩, ⟨f, h, k, j⟩, Ns _⟩
   refine Cp (Xu 2 [(20, Vi (i64.wrap (Int.tdiv (i64.wrap (a + b)) 2))), (4, Vi (i64.wrap (Int.tdiv (i64.wrap (a + b)) 2)))] (Xe R (Kl ?_)))
   obtain rfl := Sj c
   exact Kt ⟨(g, a, i64.wrap (Int.tdiv (i64.wrap (a + b)) 2)), ⟨R, R, R, T0⟩, ⟨f, h, k, j⟩, Ns _⟩
 refine Ce (Ke ?_)
 obtain rfl := Sj c
 have t := Sj f
 subst t
 have c := r
 refine Ke (Ki (Kt (Cn [(3, Vi a)] (fun n => ?_))))
 refine Cs (Xu 2 [(21, Vi a), (2, Vi a)] (Xk (Cr (Rr (Rv [Vi a] ⟨R, T0⟩ ?_)))))
 obtain rfl := Sj c
 exact ⟨R, h⟩
def interval_Root_J13 (b : Int) (a : Int) : Option ((Int × Int) × Int) :=
((interval_root b).bind fun c =>
some ((c, a), 0))
def interval_Root (a : Int) (c : Int) : Option ((Int × Int) × Int) :=
((interval_Valid a c).bind fun d =>
(if (!d) = true then
some ((0, 0), 1)
else
(if (decide (a < 0)) = true then
some ((0, 0), 2)
else
((interval_root c).bind fun b =>
(if (decide ((i64.wrap (b * b)) < c)) = true then
interval_Root_J13 a (i64.wrap (b + 1))
else
interval_Root_J13 a b)))))
theorem interval_Root_w (i j s m) (b : interval_Root i j = some s) : CallVC Tryz.prog 53 [.agg #[Vi i, Vi j]] m fun w p => w = .tuple #[.agg #[Vi s.1.1, Vi s.1.2], Vi s.2] ∧ Ev [] m p := by
 refine Cv hmx Tryz.func53 (by kernel_rfl) R (rs := [.cell 2 37, .tmp 3]) R (by kernel_rfl) (args := [.agg #[Vi i, Vi j]]) R ?_
 have a : Ev [] m m := Ev.refl _ _
 have e : MS m [[]] := ⟨List.pairwise_singleton _ _, fun ag E o n => by simp only [List.mem_singleton] at E; subst E; cases n⟩
 have h : FR m.heap.size [] := FR.nil _
 refine Cs (Yb _ R (fun g Y F d C ae => ?_))
 replace d : Y.heap[g]? = some (.cells #[Vi i, Vi j] 37 (0, 0)) := d
 refine I1 ?_
 have e := e.box C F d
 have h := h.box a.size F
 have a := a.ext C
 refine Xa (z := .agg #[Vi 0, Vi 0]) R R (by kernel_rfl) (fun k H G c x af => ?_)
 replace c : H.heap[k]? = some (.cells #[Vi 0, Vi 0] 37 (0, 0)) := c
 refine I1 ?_
 have d := x.box d nn
 have e := e.box x G c
 have h := h.box a.size G
 have a := a.ext x
 refine Xu 1 [(3, Vi 0)] (Xk (Cq (Cs (Yl _ _ R (Ra 0 [Vi i, Vi j] tagg37 d nn R) ?_))))
 obtain ⟨I, r, b⟩ := Bs b
 have q := interval_Valid_w i j _ H r
 refine Xc 63 #[] #[] _ _ R R R R q ?_
 rintro w ab ⟨rfl, v⟩
 refine I1 ?_
 have d := v.box d nn
 have c := v.box c nn
 have e := e.ev v
 have a := a.ext v
 refine Xu 1 [(7, .bool (!I))] (Xk (Ci (!I) R b (fun b => ?_) (fun b => ?_)))
 · refine Cs (Xd (vs := []) (.agg #[Vi 0, Vi 0]) R R R (fun _ _ => by kernel_rfl) ?_)
   obtain ⟨ac, X, L, Q⟩ := Sa [Vi 0, Vi 0] tagg37 c R R R
   refine Ys ac _ _ R X (I1 ?_)
   have a := a.then Q (fun o n => .inr (h.at 0 R o n))
   have c := L
   refine Xu 1 [(3, Vi 1)] (Xk (Cr (Kr (Rr (Rv [.agg #[Vi 0, Vi 0], Vi 1] ⟨⟨_, R, Lv (Ra (Mo := []) 0 [Vi 0, Vi 0] tagg37 c nn R)⟩, R, T0⟩ ?_)))))
   obtain rfl := Sj b
   exact ⟨R, a⟩
 refine Ck (Kt (Cq (Cs (Yg g 0 0 (Vi i) R R (Rf tfld37_0 _ _) tcell3 d nn R (Xu 1 [(11, Bd (i < 0))] (Xk (Ci (decide (i < 0)) R b (fun b => ?_) (fun b => ?_))))))))
 · refine Cs (Xd (vs := []) (.agg #[Vi 0, Vi 0]) R R R (fun _ _ => by kernel_rfl) ?_)
   obtain ⟨Z, S, J, N⟩ := Sa [Vi 0, Vi 0] tagg37 c R R R
   refine Ys Z _ _ R S (I1 ?_)
   have a := a.then N (fun o n => .inr (h.at 0 R o n))
   have c := J
   refine Xu 1 [(3, Vi 2)] (Xk (Cr (Kr (Rr (Rv [.agg #[Vi 0, Vi 0], Vi 2] ⟨⟨_, R, Lv (Ra (Mo := []) 0 [Vi 0, Vi 0] tagg37 c nn R)⟩, R, T0⟩ ?_)))))
   obtain rfl := Sj b
   exact ⟨R, a⟩
 refine Ck (Kt (Cs (Yg g 0 1 (Vi j) R R (Rf tfld37_1 _ _) tcell3 d nn R ?_)))
 obtain ⟨f, r, b⟩ := Bs b
 have q := interval_root_w j _ ab r
 refine Xc 64 #[] #[] _ _ R R R R q ?_
 rintro w ah ⟨rfl, u⟩
 refine I1 ?_
 have d := u.box d nn
 have c := u.box c nn
 have e := e.ev u
 have a := a.ext u
 refine Xu 1 [(4, Vi f)] (Xk (Cn [(1, Vp g 0), (2, Vp k 0), (4, Vi f)] (fun B => ?_)))
 refine c_join (σ := Int) (fun A => match A with | l => [(1, Vp g 0), (2, Vp k 0), (4, Vi l)]) (fun A p => match A with | l => interval_Root_J13 i l = some s ∧ Ev [] m p ∧ MS p [[g], [k], []] ∧ FR m.heap.size [[g], [k]] ∧ p.heap[g]? = some (.cells #[Vi i, Vi j] 37 (0, 0)) ∧ p.heap[k]? = some (.cells #[Vi 0, Vi 0] 37 (0, 0))) ?_ ?_
 · refine Cs (Xu 3 [(16, Vi f), (17, Vi f), (18, Vi (i64.wrap (f * f)))] (Yg g 0 1 (Vi j) R R (Rf tfld37_1 _ _) tcell3 d nn R (Xu 1 [(21, Bd ((i64.wrap (f * f)) < j))] (Xk (Ci (decide ((i64.wrap (f * f)) < j)) R b (fun b => ?_) (fun b => ?_))))))
   · refine Cp (Xu 3 [(22, Vi f), (23, Vi (i64.wrap (f + 1))), (4, Vi (i64.wrap (f + 1)))] (Xe R ?_))
     have y := e.pk [1, 0, 2] [[g], [k], []] R
     have e := y
     have h := h.pk [1, 0] [[g], [k]] R
     exact Kt ⟨i64.wrap (f + 1), ⟨R, R, R, T0⟩, b, a, e, h, d, c⟩
   refine Ck ?_
   have y := e.pk [1, 0, 2] [[g], [k], []] R
   have e := y
   have h := h.pk [1, 0] [[g], [k]] R
   exact Kt ⟨f, ⟨R, R, R, T0⟩, b, a, e, h, d, c⟩
 rintro l B ad ⟨b, a, e, h, d, c⟩
 refine Cs (Yg g 0 0 (Vi i) R R (Rf tfld37_0 _ _) tcell3 d nn R ?_)
 obtain ⟨t, r, b⟩ := Bs b
 have q := interval_root_w i _ ad r
 refine Xc 64 #[] #[] _ _ R R R R q ?_
 rintro w ai ⟨rfl, D⟩
 refine I1 ?_
 have c := D.box c nn
 have a := a.ext D
 refine Xu 1 [(27, Vi l)] (Xd (vs := [(0, Vi t), (1, Vi l)]) (.agg #[Vi t, Vi l]) R R R (fun _ _ => by kernel_rfl) ?_)
 obtain ⟨aa, U, K, O⟩ := Sa [Vi t, Vi l] tagg37 c R R R
 refine Ys aa _ _ R U (I1 ?_)
 have a := a.then O (fun o n => .inr (h.at 1 R o n))
 have c := K
 refine Xu 1 [(3, Vi 0)] (Xk (Cn [(2, Vp k 0), (3, Vi 0)] (fun B => ?_)))
 refine Cr (Rr (Rv [.agg #[Vi t, Vi l], Vi 0] ⟨⟨_, R, Lv (Ra (Mo := []) 0 [Vi t, Vi l] tagg37 c nn R)⟩, R, T0⟩ ?_))
 obtain rfl := Sj b
 exact ⟨R, a⟩
end Go.Proofs.YtfhkfjankgikcaaGreat
