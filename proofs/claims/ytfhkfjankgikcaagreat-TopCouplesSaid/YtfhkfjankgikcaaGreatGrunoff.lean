
/- Walks, printed by program: each function returns what the partial function of the same name returns. Conditions: those of each theorem. -/
import Derived.Test.YtfhkfjankgikcaaGreatGT
import Derived.Test.YtfhkfjankgikcaaGreatGinterval
set_option linter.unusedVariables false
set_option linter.unusedSimpArgs false
set_option maxRecDepth 4000
namespace Go.Proofs.YtfhkfjankgikcaaGreat
open Go Go.V Go.Proofs Go.IntKind
def runoff_in (a : Int) (b : Int) (c : Int) : Option Bool :=
(if (decide (a ≥ b)) = true then
some (decide (a ≤ c))
else
some false)
theorem runoff_in_w (a c b h e) (d : runoff_in a c b = some h) : CallVC Tryz.prog 30 [Vi a, Vi c, Vi b] e fun j k => j = .bool h ∧ Ev [] e k := by
 refine Cv hmx Tryz.func30 (by kernel_rfl) R (rs := [.tmp 6]) R (by kernel_rfl) (args := [Vi a, Vi c, Vi b]) R ?_
 have f : Ev [] e e := Ev.refl _ _
 have m : MS e [[]] := ⟨List.pairwise_singleton _ _, fun n g l i => by simp only [List.mem_singleton] at g; subst g; cases i⟩
 refine Cs (Xu 1 [(6, .bool false)] (Xk (Cs (Xu 4 [(7, Vi a), (8, Vi c), (9, Bd (a ≥ c)), (10, Bd (a ≥ c))] (Xw 10 (decide (a ≥ c)) R d (fun d => ?_) (fun d => ?_))))))
 · refine Xu 5 [(11, Vi a), (12, Vi b), (13, Bd (a ≤ b)), (14, Bd (a ≤ b)), (6, Bd (a ≤ b))] (Xk (Cr (Rr (Rv [Bd (a ≤ b)] ⟨R, T0⟩ ?_))))
   obtain rfl := Sj d
   exact ⟨R, f⟩
 refine Xu 5 [(11, U0), (12, U0), (13, U0), (14, .bool false), (6, .bool false)] (Xk (Cr (Rr (Rv [.bool false] ⟨R, T0⟩ ?_))))
 obtain rfl := Sj d
 exact ⟨R, f⟩
def runoff_Valid_L3 (c : List (Int × Int × Int × Int × Int)) (d : Int) : Option (Step Int (Unit ⊕ Unit)) :=
match d with
| b =>
(if (decide (b < ((c).length : Int))) = true then
((idx c b).bind fun a =>
((runoff_in a.1 0 127).bind fun e =>
(if (!e) = true then
some (.done (.inl ()))
else
((runoff_in a.2.1 1 1000000).bind fun f =>
(if (!f) = true then
some (.done (.inl ()))
else
((runoff_in a.2.2.1 (-10000) 10000).bind fun g =>
(if (!g) = true then
some (.done (.inl ()))
else
((runoff_in a.2.2.2.1 0 5000).bind fun h =>
(if (!h) = true then
some (.done (.inl ()))
else
((runoff_in a.2.2.2.2 0 1000000000).bind fun i =>
(if (!i) = true then
some (.done (.inl ()))
else
some (.next (i64.wrap (b + 1))))))))))))))
else
some (.done (.inr ())))
def runoff_Valid (a : List (Int × Int × Int × Int × Int)) : Option Int :=
(if (decide (((a).length : Int) < 1)) = true then
some 3
else
(if (decide (((a).length : Int) > 128)) = true then
some 3
else
((loop (runoff_Valid_L3 a) 0).bind fun b => match b with
| (.inl _) => some 1
| (.inr _) => some 0)))
theorem runoff_Valid_w (g h b Q r k) (f : MS r [k]) (d : SlR (eProd eI (eIt4)) r (fl [k]) g h b) (a : runoff_Valid b = some Q) : CallVC Tryz.prog 21 [Vl g b h] r fun v y => v = Vi Q ∧ Ev [] r y := by
 refine Cv hmx Tryz.func21 (by kernel_rfl) R (rs := [.tmp 2]) R (by kernel_rfl) (args := [Vl g b h]) R ?_
 have c : Ev [] r r := Ev.refl _ _
 have t : FR r.heap.size [] := FR.nil _
 refine Cs (Xu 1 [(2, Vi 0)] (Xk (Cq (Cs (Xu 1 [(5, Vl g b h)] (Xn (vs := [Vl g b h]) (Vi ((b).length : Int)) R R R (Rl tsl32 _ _ _ _ _) (Xu 2 [(7, Bd (((b).length : Int) < 1)), (8, Bd (((b).length : Int) < 1))] (Xw 8 (decide (((b).length : Int) < 1)) R a (fun a => ?_) (fun a => ?_)))))))))
 · refine Xu 4 [(9, U0), (10, U0), (11, U0), (12, .bool true)] (Xk (c_true R (Cs (Xu 1 [(2, Vi 3)] (Xk (Cr (Kr (Rr (Rv [Vi 3] ⟨R, T0⟩ ?_)))))))))
   obtain rfl := Sj a
   exact ⟨R, c⟩
 refine Xu 1 [(9, Vl g b h)] (Xn (vs := [Vl g b h]) (Vi ((b).length : Int)) R R R (Rl tsl32 _ _ _ _ _) (Xu 2 [(11, Bd (((b).length : Int) > 128)), (12, Bd (((b).length : Int) > 128))] (Xk (Ci (decide (((b).length : Int) > 128)) R a (fun a => ?_) (fun a => ?_)))))
 · refine Cs (Xu 1 [(2, Vi 3)] (Xk (Cr (Kr (Rr (Rv [Vi 3] ⟨R, T0⟩ ?_))))))
   obtain rfl := Sj a
   exact ⟨R, c⟩
 refine Ck (Kt (Cq (Cs (Xu 1 [(13, Vl g b h)] (Xn (vs := [Vl g b h]) (Vi ((b).length : Int)) R R R (Rl tsl32 _ _ _ _ _) (Xu 1 [(15, Vi 0)] (Xk (Cn [(13, Vl g b h), (14, Vi ((b).length : Int)), (15, Vi 0)] (fun s => ?_)))))))))
 refine Cb ?_
 obtain ⟨Y, I, u⟩ := Bs a
 obtain ⟨w, I⟩ := Lo I
 refine Cl (Lr hmx (σ := Nat × Int) (fun x => match x with | (_, j) => [(13, Vl g b h), (14, Vi ((b).length : Int)), (15, Vi j)]) (fun x y => match x with | (ai, j) => loopN (runoff_Valid_L3 b) ai j = some Y ∧ Ev [] r y ∧ MS y [k] ∧ FR r.heap.size [] ∧ SlR (eProd eI (eIt4)) y (fl [k]) g h b) (fun x => x.1) (w, 0) ⟨R, R, R, T0⟩ ⟨I, c, f, t, d⟩ ?_)
 rintro ⟨w, j⟩ s au ⟨o, c, f, t, d⟩
 rcases w with _ | w
 · exact (Lz o).elim
 obtain ⟨aq, a, o⟩ := Bs o
 refine Cs (Xu 1 [(16, Bd (j < ((b).length : Int)))] (Xk (Cn [(13, Vl g b h), (14, Vi ((b).length : Int)), (15, Vi j), (16, Bd (j < ((b).length : Int)))] (fun s => ?_))))
 refine Cq (Ci (decide (j < ((b).length : Int))) R a (fun a => ?_) (fun a => ?_))
 · refine Ck (Kt (Cq (Cb (Cs ?_))))
   obtain ⟨e, ah, a⟩ := Bs a
   obtain ⟨U, ao, ae, ac, Z⟩ := Ri (Mo := []) tsl32 d ah
   obtain ⟨_, _, rfl, rfl, ⟨_, _, rfl, rfl, ⟨_, _, rfl, rfl, ⟨_, _, rfl, rfl, rfl⟩⟩⟩⟩ := Z
   refine Yi _ _ _ R ae (Yl (.pointer (some U)) (.agg #[Vi e.1, Vi e.2.1, Vi e.2.2.1, Vi e.2.2.2.1, Vi e.2.2.2.2]) R (reads_agg tagg35 ac (fun _ a => by cases a)) ?_)
   refine Xa (z := .agg #[Vi 0, Vi 0, Vi 0, Vi 0, Vi 0]) R R (by kernel_rfl) (fun l an N i K ap => ?_)
   replace i : an.heap[l]? = some (.cells #[Vi 0, Vi 0, Vi 0, Vi 0, Vi 0] 35 (0, 0)) := i
   refine I1 ?_
   have m := Stp.box (ls := [k]) K N
   have d := d.step m
   have f := f.box K N i
   have t := t.box c.size N
   have c := c.ext K
   obtain ⟨S, af, ab, L⟩ := Sa [Vi e.1, Vi e.2.1, Vi e.2.2.1, Vi e.2.2.2.1, Vi e.2.2.2.2] tagg35 i R R R
   refine Ys S _ _ R af (I1 ?_)
   have m := Stp.ev' (ls := [[l], k]) L (Mf 0 R)
   have d := d.step m
   have f := f.ev L
   have c := c.then L (fun X aa => .inr (t.at 0 R X aa))
   have i := ab
   refine Xk (Cs (Yg l 0 0 (Vi e.1) R R (Rf tfld35_0 _ _) tcell3 i nn R ?_))
   obtain ⟨O, q, a⟩ := Bs a
   have p := runoff_in_w e.1 0 127 _ S q
   refine Xc 30 #[] #[] _ _ R R R R p ?_
   rintro v aj ⟨rfl, A⟩
   refine I1 ?_
   have m := Stp.ext (ls := [[l], k]) A
   have d := d.step m
   have i := A.box i nn
   have f := f.ev A
   have c := c.ext A
   refine Xu 2 [(22, .bool (!O)), (23, .bool (!O))] (Xw 23 (!O) R a (fun a => ?_) (fun a => ?_))
   · refine Xu 23 [(24, U0), (25, U0), (26, U0), (27, U0), (28, .bool true), (29, .bool true), (30, U0), (31, U0), (32, U0), (33, U0), (34, .bool true), (35, .bool true), (36, U0), (37, U0), (38, U0), (39, U0), (40, .bool true), (41, .bool true), (42, U0), (43, U0), (44, U0), (45, U0), (46, .bool true)] (Xk (Cn [(13, Vl g b h), (14, Vi ((b).length : Int)), (15, Vi j), (46, .bool true)] (fun s => ?_)))
     refine c_true R (Cs (Xu 1 [(2, Vi 1)] (Xk (Cr (Kb (Kr ?_))))))
     obtain rfl := Sj a
     have n := Sj o
     subst n
     have a := u
     refine Kr (Kb (Kr (Rr (Rv [Vi 1] ⟨R, T0⟩ ?_))))
     obtain rfl := Sj a
     exact ⟨R, c⟩
   refine Yg l 0 1 (Vi e.2.1) R R (Rf tfld35_1 _ _) tcell3 i nn R ?_
   obtain ⟨E, q, a⟩ := Bs a
   have p := runoff_in_w e.2.1 1 1000000 _ aj q
   refine Xc 30 #[] #[] _ _ R R R R p ?_
   rintro v ak ⟨rfl, B⟩
   refine I1 ?_
   have m := Stp.ext (ls := [[l], k]) B
   have d := d.step m
   have i := B.box i nn
   have f := f.ev B
   have c := c.ext B
   refine Xu 3 [(27, .bool (!E)), (28, .bool (!E)), (29, .bool (!E))] (Xw 29 (!E) R a (fun a => ?_) (fun a => ?_))
   · refine Xu 17 [(30, U0), (31, U0), (32, U0), (33, U0), (34, .bool true), (35, .bool true), (36, U0), (37, U0), (38, U0), (39, U0), (40, .bool true), (41, .bool true), (42, U0), (43, U0), (44, U0), (45, U0), (46, .bool true)] (Xk (Cn [(13, Vl g b h), (14, Vi ((b).length : Int)), (15, Vi j), (46, .bool true)] (fun s => ?_)))
     refine c_true R (Cs (Xu 1 [(2, Vi 1)] (Xk (Cr (Kb (Kr ?_))))))
     obtain rfl := Sj a
     have n := Sj o
     subst n
     have a := u
     refine Kr (Kb (Kr (Rr (Rv [Vi 1] ⟨R, T0⟩ ?_))))
     obtain rfl := Sj a
     exact ⟨R, c⟩
   refine Yg l 0 2 (Vi e.2.2.1) R R (Rf tfld35_2 _ _) tcell3 i nn R ?_
   obtain ⟨F, q, a⟩ := Bs a
   have p := runoff_in_w e.2.2.1 (-10000) 10000 _ ak q
   refine Xc 30 #[] #[] _ _ R R R R p ?_
   rintro v al ⟨rfl, C⟩
   refine I1 ?_
   have m := Stp.ext (ls := [[l], k]) C
   have d := d.step m
   have i := C.box i nn
   have f := f.ev C
   have c := c.ext C
   refine Xu 3 [(33, .bool (!F)), (34, .bool (!F)), (35, .bool (!F))] (Xw 35 (!F) R a (fun a => ?_) (fun a => ?_))
   · refine Xu 11 [(36, U0), (37, U0), (38, U0), (39, U0), (40, .bool true), (41, .bool true), (42, U0), (43, U0), (44, U0), (45, U0), (46, .bool true)] (Xk (Cn [(13, Vl g b h), (14, Vi ((b).length : Int)), (15, Vi j), (46, .bool true)] (fun s => ?_)))
     refine c_true R (Cs (Xu 1 [(2, Vi 1)] (Xk (Cr (Kb (Kr ?_))))))
     obtain rfl := Sj a
     have n := Sj o
     subst n
     have a := u
     refine Kr (Kb (Kr (Rr (Rv [Vi 1] ⟨R, T0⟩ ?_))))
     obtain rfl := Sj a
     exact ⟨R, c⟩
   refine Yg l 0 3 (Vi e.2.2.2.1) R R (Rf tfld35_3 _ _) tcell3 i nn R ?_
   obtain ⟨G, q, a⟩ := Bs a
   have p := runoff_in_w e.2.2.2.1 0 5000 _ al q
   refine Xc 30 #[] #[] _ _ R R R R p ?_
   rintro v am ⟨rfl, D⟩
   refine I1 ?_
   have m := Stp.ext (ls := [[l], k]) D
   have d := d.step m
   have i := D.box i nn
   have f := f.ev D
   have c := c.ext D
   refine Xu 3 [(39, .bool (!G)), (40, .bool (!G)), (41, .bool (!G))] (Xw 41 (!G) R a (fun a => ?_) (fun a => ?_))
   · refine Xu 5 [(42, U0), (43, U0), (44, U0), (45, U0), (46, .bool true)] (Xk (Cn [(13, Vl g b h), (14, Vi ((b).length : Int)), (15, Vi j), (46, .bool true)] (fun s => ?_)))
     refine c_true R (Cs (Xu 1 [(2, Vi 1)] (Xk (Cr (Kb (Kr ?_))))))
     obtain rfl := Sj a
     have n := Sj o
     subst n
     have a := u
     refine Kr (Kb (Kr (Rr (Rv [Vi 1] ⟨R, T0⟩ ?_))))
     obtain rfl := Sj a
     exact ⟨R, c⟩
   refine Yg l 0 4 (Vi e.2.2.2.2) R R (Rf tfld35_4 _ _) tcell3 i nn R ?_
   obtain ⟨H, q, a⟩ := Bs a
   have p := runoff_in_w e.2.2.2.2 0 1000000000 _ am q
   refine Xc 30 #[] #[] _ _ R R R R p ?_
   rintro v ar ⟨rfl, J⟩
   refine I1 ?_
   have m := Stp.ext (ls := [[l], k]) J
   have d := d.step m
   have f := f.ev J
   have c := c.ext J
   refine Xu 2 [(45, .bool (!H)), (46, .bool (!H))] (Xk (Cn [(13, Vl g b h), (14, Vi ((b).length : Int)), (15, Vi j), (46, .bool (!H))] (fun s => ?_)))
   refine Ci (!H) R a (fun a => ?_) (fun a => ?_)
   · refine Cs (Xu 1 [(2, Vi 1)] (Xk (Cr (Kb (Kr ?_)))))
     obtain rfl := Sj a
     have n := Sj o
     subst n
     have a := u
     refine Kr (Kb (Kr (Rr (Rv [Vi 1] ⟨R, T0⟩ ?_))))
     obtain rfl := Sj a
     exact ⟨R, c⟩
   refine Ck (Kl (Kt (Cp (Xu 2 [(47, Vi (i64.wrap (j + 1))), (15, Vi (i64.wrap (j + 1)))] (Xe R ?_)))))
   obtain rfl := Sj a
   have ad := f.pk [1] [k] R
   have ag := Pk (ls := [[l], k]) [1] [k] R
   have d := d.sub ag
   have f := ad
   have t := t.pick [] [] R
   exact Kt ⟨(w, i64.wrap (j + 1)), ⟨R, R, R, T0⟩, ⟨o, c, f, t, d⟩, Ns _⟩
 refine Ce (Ke ?_)
 obtain rfl := Sj a
 have n := Sj o
 subst n
 have a := u
 refine Ke (Ki (Kt (c_norm [] T0 (fun s => ?_))))
 refine Cs (Xu 1 [(2, Vi 0)] (Xk (Cr (Rr (Rv [Vi 0] ⟨R, T0⟩ ?_)))))
 obtain rfl := Sj a
 exact ⟨R, c⟩
def runoff_retarders_L2 (c : List (Int × Int × Int × Int × Int)) (d : Int × Int) : Option (Step (Int × Int) Int) :=
match d with
| (b, a) =>
(if (decide (a < ((c).length : Int))) = true then
((idx c a).bind fun e =>
(if (decide (e.2.2.2.2 > 0)) = true then
some (.next (i64.wrap (b + 1), i64.wrap (a + 1)))
else
some (.next (b, i64.wrap (a + 1)))))
else
some (.done b))
def runoff_retarders (c : List (Int × Int × Int × Int × Int)) : Option Int :=
((loop (runoff_retarders_L2 c) (0, 0)).bind fun a => match a with
| b => some b)
theorem runoff_retarders_w (l m b C k g) (h : MS k [g]) (e : SlR (eProd eI (eIt4)) k (fl [g]) l m b) (a : runoff_retarders b = some C) : CallVC Tryz.prog 29 [Vl l b m] k fun U s => U = Vi C ∧ Ev [] k s := by
 refine Cv hmx Tryz.func29 (by kernel_rfl) R (rs := [.tmp 2]) R (by kernel_rfl) (args := [Vl l b m]) R ?_
 have j : Ev [] k k := Ev.refl _ _
 have i : FR k.heap.size [] := FR.nil _
 refine Cs (Xu 1 [(2, Vi 0)] (Xk (Cs (Xu 1 [(3, Vi 0)] (Xk (Cq (Cs (Xu 1 [(6, Vl l b m)] (Xn (vs := [Vl l b m]) (Vi ((b).length : Int)) R R R (Rl tsl32 _ _ _ _ _) ?_)))))))))
 refine Xu 1 [(8, Vi 0)] (Xk (Cb ?_))
 obtain ⟨F, t, G⟩ := Bs a
 obtain ⟨p, t⟩ := Lo t
 refine Cl (Lr hmx (σ := Nat × Int × Int) (fun r => match r with | (_, c, d) => [(3, Vi c), (6, Vl l b m), (7, Vi ((b).length : Int)), (8, Vi d)]) (fun r s => match r with | (S, c, d) => loopN (runoff_retarders_L2 b) S (c, d) = some F ∧ Ev [] k s ∧ MS s [g] ∧ FR k.heap.size [] ∧ SlR (eProd eI (eIt4)) s (fl [g]) l m b) (fun r => r.1) (p, 0, 0) ⟨R, R, R, R, T0⟩ ⟨t, j, h, i, e⟩ ?_)
 rintro ⟨p, c, d⟩ B ac ⟨o, j, h, i, e⟩
 rcases p with _ | p
 · exact (Lz o).elim
 obtain ⟨ab, a, o⟩ := Bs o
 refine Cs (Xu 1 [(9, Bd (d < ((b).length : Int)))] (Xk (Cn [(3, Vi c), (6, Vl l b m), (7, Vi ((b).length : Int)), (8, Vi d), (9, Bd (d < ((b).length : Int)))] (fun B => ?_))))
 refine Cq (Ci (decide (d < ((b).length : Int))) R a (fun a => ?_) (fun a => ?_))
 · refine Ck (Kt (Cq (Cb (Cs ?_))))
   obtain ⟨f, O, a⟩ := Bs a
   obtain ⟨D, Z, L, K, H⟩ := Ri (Mo := []) tsl32 e O
   obtain ⟨_, _, rfl, rfl, ⟨_, _, rfl, rfl, ⟨_, _, rfl, rfl, ⟨_, _, rfl, rfl, rfl⟩⟩⟩⟩ := H
   refine Yi _ _ _ R L (Yl (.pointer (some D)) (.agg #[Vi f.1, Vi f.2.1, Vi f.2.2.1, Vi f.2.2.2.1, Vi f.2.2.2.2]) R (reads_agg tagg35 K (fun _ a => by cases a)) ?_)
   refine Xa (z := .agg #[Vi 0, Vi 0, Vi 0, Vi 0, Vi 0]) R R (by kernel_rfl) (fun q X x n u aa => ?_)
   replace n : X.heap[q]? = some (.cells #[Vi 0, Vi 0, Vi 0, Vi 0, Vi 0] 35 (0, 0)) := n
   refine I1 ?_
   have y := Stp.box (ls := [g]) u x
   have e := e.step y
   have h := h.box u x n
   have i := i.box j.size x
   have j := j.ext u
   obtain ⟨Y, N, J, v⟩ := Sa [Vi f.1, Vi f.2.1, Vi f.2.2.1, Vi f.2.2.2.1, Vi f.2.2.2.2] tagg35 n R R R
   refine Ys Y _ _ R N (I1 ?_)
   have y := Stp.ev' (ls := [[q], g]) v (Mf 0 R)
   have e := e.step y
   have h := h.ev v
   have j := j.then v (fun E I => .inr (i.at 0 R E I))
   have n := J
   refine Xk (Cs (Yg q 0 4 (Vi f.2.2.2.2) R R (Rf tfld35_4 _ _) tcell3 n nn R (Xu 1 [(14, Bd (f.2.2.2.2 > 0))] (Xk (Ci (decide (f.2.2.2.2 > 0)) R a (fun a => ?_) (fun a => ?_))))))
   · refine Cp (Xu 3 [(15, Vi c), (16, Vi (i64.wrap (c + 1))), (3, Vi (i64.wrap (c + 1)))] (Xe R (Kl (Kt (Cp (Xu 2 [(17, Vi (i64.wrap (d + 1))), (8, Vi (i64.wrap (d + 1)))] (Xe R ?_)))))))
     obtain rfl := Sj a
     have w := h.pk [1] [g] R
     have A := Pk (ls := [[q], g]) [1] [g] R
     have e := e.sub A
     have h := w
     have i := i.pick [] [] R
     exact Kt ⟨(p, i64.wrap (c + 1), i64.wrap (d + 1)), ⟨R, R, R, R, T0⟩, ⟨o, j, h, i, e⟩, Ns _⟩
   refine Ck (Kl (Kt (Cp (Xu 2 [(17, Vi (i64.wrap (d + 1))), (8, Vi (i64.wrap (d + 1)))] (Xe R ?_)))))
   obtain rfl := Sj a
   have w := h.pk [1] [g] R
   have A := Pk (ls := [[q], g]) [1] [g] R
   have e := e.sub A
   have h := w
   have i := i.pick [] [] R
   exact Kt ⟨(p, c, i64.wrap (d + 1)), ⟨R, R, R, R, T0⟩, ⟨o, j, h, i, e⟩, Ns _⟩
 refine Ce (Ke ?_)
 obtain rfl := Sj a
 have Q := Sj o
 subst Q
 have a := G
 refine Ke (Ki (Kt (Cn [(3, Vi c)] (fun B => ?_))))
 refine Cs (Xu 2 [(18, Vi c), (2, Vi c)] (Xk (Cr (Rr (Rv [Vi c] ⟨R, T0⟩ ?_)))))
 obtain rfl := Sj a
 exact ⟨R, j⟩
def runoff_targets_L2 (b : List Int) (c : Int) : Option (Step Int (Unit ⊕ Unit)) :=
match c with
| a =>
(if (decide (a < ((b).length : Int))) = true then
((idx b a).bind fun d =>
((runoff_in d (-1) 20000).bind fun e =>
(if (!e) = true then
some (.done (.inl ()))
else
some (.next (i64.wrap (a + 1))))))
else
some (.done (.inr ())))
def runoff_targets (b : List Int) : Option Bool :=
((loop (runoff_targets_L2 b) 0).bind fun a => match a with
| (.inl _) => some false
| (.inr _) => some true)
theorem runoff_targets_w (e f b v d j) (k : MS d [j]) (i : SlR eI d (fl [j]) e f b) (a : runoff_targets b = some v) : CallVC Tryz.prog 31 [Vl e b f] d fun w n => w = .bool v ∧ Ev [] d n := by
 refine Cv hmx Tryz.func31 (by kernel_rfl) R (rs := [.tmp 2]) R (by kernel_rfl) (args := [Vl e b f]) R ?_
 have g : Ev [] d d := Ev.refl _ _
 have r : FR d.heap.size [] := FR.nil _
 refine Cs (Xu 1 [(2, .bool false)] (Xk (Cq (Cs (Xu 1 [(5, Vl e b f)] (Xn (vs := [Vl e b f]) (Vi ((b).length : Int)) R R R (Rl tsl22 _ _ _ _ _) (Xu 1 [(7, Vi 0)] (Xk (Cb ?_)))))))))
 obtain ⟨y, p, u⟩ := Bs a
 obtain ⟨l, p⟩ := Lo p
 refine Cl (Lr hmx (σ := Nat × Int) (fun m => match m with | (_, c) => [(5, Vl e b f), (6, Vi ((b).length : Int)), (7, Vi c)]) (fun m n => match m with | (G, c) => loopN (runoff_targets_L2 b) G c = some y ∧ Ev [] d n ∧ MS n [j] ∧ FR d.heap.size [] ∧ SlR eI n (fl [j]) e f b) (fun m => m.1) (l, 0) ⟨R, R, R, T0⟩ ⟨p, g, k, r, i⟩ ?_)
 rintro ⟨l, c⟩ t H ⟨h, g, k, r, i⟩
 rcases l with _ | l
 · exact (Lz h).elim
 obtain ⟨K, a, h⟩ := Bs h
 refine Cs (Xu 1 [(8, Bd (c < ((b).length : Int)))] (Xk (Cn [(5, Vl e b f), (6, Vi ((b).length : Int)), (7, Vi c), (8, Bd (c < ((b).length : Int)))] (fun t => ?_))))
 refine Cq (Ci (decide (c < ((b).length : Int))) R a (fun a => ?_) (fun a => ?_))
 · refine Ck (Kt (Cq (Cb (Cs ?_))))
   obtain ⟨o, F, a⟩ := Bs a
   obtain ⟨I, J, C, A, z⟩ := Ri (Mo := []) tsl22 i F
   obtain rfl := z
   refine Yi _ _ _ R C (Yl _ (Vi o) R (Rc tcell3 A (fun _ a => by cases a)) ?_)
   refine Xu 1 [(4, Vi o)] (Xk (Cs (Xu 1 [(11, Vi o)] ?_)))
   obtain ⟨x, E, a⟩ := Bs a
   have B := runoff_in_w o (-1) 20000 _ H E
   refine Xc 30 #[] #[] _ _ R R R R B ?_
   rintro w L ⟨rfl, q⟩
   refine I1 ?_
   have D := Stp.ext (ls := [j]) q
   have i := i.step D
   have k := k.ev q
   have g := g.ext q
   refine Xu 1 [(13, .bool (!x))] (Xk (Ci (!x) R a (fun a => ?_) (fun a => ?_)))
   · refine Cs (Xu 1 [(2, .bool false)] (Xk (Cr (Kb (Kr ?_)))))
     obtain rfl := Sj a
     have s := Sj h
     subst s
     have a := u
     refine Kr (Kb (Kr (Rr (Rv [.bool false] ⟨R, T0⟩ ?_))))
     obtain rfl := Sj a
     exact ⟨R, g⟩
   refine Ck (Kl (Kt (Cp (Xu 2 [(14, Vi (i64.wrap (c + 1))), (7, Vi (i64.wrap (c + 1)))] (Xe R ?_)))))
   obtain rfl := Sj a
   exact Kt ⟨(l, i64.wrap (c + 1)), ⟨R, R, R, T0⟩, ⟨h, g, k, r, i⟩, Ns _⟩
 refine Ce (Ke ?_)
 obtain rfl := Sj a
 have s := Sj h
 subst s
 have a := u
 refine Ke (Ki (Kt (c_norm [] T0 (fun t => ?_))))
 refine Cs (Xu 1 [(2, .bool true)] (Xk (Cr (Rr (Rv [.bool true] ⟨R, T0⟩ ?_)))))
 obtain rfl := Sj a
 exact ⟨R, g⟩
def runoff_check_L25 (b : List (Int × Int)) (d : Int) : Option (Step Int (Unit ⊕ Unit)) :=
match d with
| a =>
(if (decide (a < ((b).length : Int))) = true then
((idx b a).bind fun c =>
(if (decide (c.1 < (-5000))) = true then
some (.done (.inl ()))
else
(if (decide (c.2 > 10000)) = true then
some (.done (.inl ()))
else
some (.next (i64.wrap (a + 1))))))
else
some (.done (.inr ())))
def runoff_check_L15 (b : List (Int × Int)) (d : Int) : Option (Step Int (Unit ⊕ Unit)) :=
match d with
| a =>
(if (decide (a < ((b).length : Int))) = true then
((idx b a).bind fun c =>
((interval_Valid c.1 c.2).bind fun e =>
(if (!e) = true then
some (.done (.inl ()))
else
some (.next (i64.wrap (a + 1))))))
else
some (.done (.inr ())))
def runoff_check (b : List (Int × Int × Int × Int × Int)) (d : Int) (e : Int) (c : List (Int × Int)) (h : Int) (f : List Int) : Option Int :=
((runoff_Valid b).bind fun g =>
(if (g != 0) = true then
some g
else
((interval_Valid d e).bind fun i =>
(if (!i) = true then
some 1
else
(if (((c).length : Int) != ((b).length : Int)) = true then
some 1
else
((runoff_retarders b).bind fun j =>
(if (((f).length : Int) != j) = true then
some 1
else
((loop (runoff_check_L15 c) 0).bind fun a => match a with
| (.inl _) => some 1
| (.inr _) => ((loop (runoff_check_L25 c) 0).bind fun a => match a with
| (.inl _) => some 2
| (.inr _) => (if (decide (d < 0)) = true then
some 2
else
(if (decide (e > 20000)) = true then
some 2
else
((runoff_in h 0 1000).bind fun k =>
(if (!k) = true then
some 2
else
((runoff_targets f).bind fun l =>
(if (!l) = true then
some 2
else
some 0)))))))))))))))
theorem runoff_check_w (E F p v q k l d H t u n aD r j) (f : MS r [j]) (D : SlR (eProd eI (eIt4)) r (fl [j]) E F p) (i : SlR (eProd eI eI) r (fl [j]) k l d) (h : SlR eI r (fl [j]) t u n) (a : runoff_check p v q d H n = some aD) : CallVC Tryz.prog 50 [Vl E p F, .agg #[Vi v, Vi q, Vl k d l, Vi H, Vl t n u]] r fun L s => L = Vi aD ∧ Ev [] r s := by
 refine Cv hmx Tryz.func50 (by kernel_rfl) R (rs := [.tmp 4]) R (by kernel_rfl) (args := [Vl E p F, .agg #[Vi v, Vi q, Vl k d l, Vi H, Vl t n u]]) R ?_
 have c : Ev [] r r := Ev.refl _ _
 have m : FR r.heap.size [] := FR.nil _
 refine Cs (Yb _ R (fun b aF az e av bc => ?_))
 replace e : aF.heap[b]? = some (.cells #[Vi v, Vi q, Vl k d l, Vi H, Vl t n u] 40 (0, 0)) := e
 refine I1 ?_
 have g := Stp.box (ls := [j]) av az
 have D := D.step g
 have i := i.step g
 have h := h.step g
 have f := f.box av az e
 have m := m.box c.size az
 have c := c.ext av
 refine Xu 1 [(4, Vi 0)] (Xk (Cq (Cs (Xu 1 [(10, Vl E p F)] ?_))))
 obtain ⟨N, A, a⟩ := Bs a
 have y := runoff_Valid_w E F p _ aF (fl [[b], j]) (MS.fold (P := []) f) (D.sub fl1) A
 refine Xc 21 #[] #[] _ _ R R R R y ?_
 rintro L aa ⟨rfl, aj⟩
 refine I1 ?_
 have g := Stp.ext (ls := [[b], j]) aj
 have D := D.step g
 have i := i.step g
 have h := h.step g
 have e := aj.box e nn
 have f := f.ev aj
 have c := c.ext aj
 refine Xu 1 [(5, Vi N)] (Xk (Cs (Xu 2 [(12, Vi N), (13, .bool (N != 0))] (Xk (Ci (N != 0) R a (fun a => ?_) (fun a => ?_))))))
 · refine Cs (Xu 2 [(14, Vi N), (4, Vi N)] (Xk (Cr (Kr (Rr (Rv [Vi N] ⟨R, T0⟩ ?_))))))
   obtain rfl := Sj a
   exact ⟨R, c⟩
 refine Ck (Kt (Cq (Cq (Cd [] [(0, false), (1, false), (2, true), (3, false), (4, false), (5, false), (6, false), (7, false), (8, false), (9, false), (10, false), (11, false), (12, false), (13, false), (14, false), (15, false), (16, false), (17, false), (18, false), (19, false)] _ (by kernel_rfl) R ?_))))
 have g := Stp.ext (ls := [[b], j]) (Ev.drew aa)
 have D := D.step g
 have i := i.step g
 have h := h.step g
 have e := (Ev.drew aa).box e nn
 have f := f.ev (Ev.drew aa)
 have c := c.ext (Ev.drew aa)
 refine Yf (Vp b 0) (Vp b 0) R (Rf tfld40_0 _ _) (Yl _ _ R (Ra 0 [Vi v, Vi q] tagg37 e nn R) ?_)
 obtain ⟨aB, A, a⟩ := Bs a
 have y := interval_Valid_w v q _ (aa).drew A
 refine Xc 63 #[] #[] _ _ R R R R y ?_
 rintro L a2 ⟨rfl, ac⟩
 refine I1 ?_
 have g := Stp.ext (ls := [[b], j]) ac
 have D := D.step g
 have i := i.step g
 have h := h.step g
 have e := ac.box e nn
 have f := f.ev ac
 have c := c.ext ac
 refine Xu 2 [(18, .bool (!aB)), (19, .bool (!aB))] (Xw 19 (!aB) R a (fun a => ?_) (fun a => ?_))
 · refine Xu 15 [(20, U0), (21, U0), (22, U0), (23, U0), (24, U0), (25, U0), (26, .bool true), (27, .bool true), (28, U0), (29, U0), (30, U0), (31, U0), (32, U0), (33, U0), (34, .bool true)] (Xk (Cn [(3, Vp b 0), (34, .bool true)] (fun o => ?_)))
   refine c_true R (Cs (Xu 1 [(4, Vi 1)] (Xk (Cr (Kr (Rr (Rv [Vi 1] ⟨R, T0⟩ ?_)))))))
   obtain rfl := Sj a
   exact ⟨R, c⟩
 refine Yg b 0 2 (Vl k d l) R R (Rf tfld40_1 _ _) tcell38 e nn R (Xn (vs := [Vl k d l]) (Vi ((d).length : Int)) R R R (Rl tsl38 _ _ _ _ _) (Xu 1 [(23, Vl E p F)] (Xn (vs := [Vl E p F]) (Vi ((p).length : Int)) R R R (Rl tsl32 _ _ _ _ _) (Xu 3 [(25, .bool (((d).length : Int) != ((p).length : Int))), (26, .bool (((d).length : Int) != ((p).length : Int))), (27, .bool (((d).length : Int) != ((p).length : Int)))] (Xw 27 (((d).length : Int) != ((p).length : Int)) R a (fun a => ?_) (fun a => ?_))))))
 · refine Xu 7 [(28, U0), (29, U0), (30, U0), (31, U0), (32, U0), (33, U0), (34, .bool true)] (Xk (Cn [(3, Vp b 0), (34, .bool true)] (fun o => ?_)))
   refine c_true R (Cs (Xu 1 [(4, Vi 1)] (Xk (Cr (Kr (Rr (Rv [Vi 1] ⟨R, T0⟩ ?_)))))))
   obtain rfl := Sj a
   exact ⟨R, c⟩
 refine Yg b 0 4 (Vl t n u) R R (Rf tfld40_3 _ _) tcell22 e nn R (Xn (vs := [Vl t n u]) (Vi ((n).length : Int)) R R R (Rl tsl22 _ _ _ _ _) (Xu 1 [(31, Vl E p F)] ?_))
 obtain ⟨ak, A, a⟩ := Bs a
 have y := runoff_retarders_w E F p _ a2 (fl [[b], j]) (MS.fold (P := []) f) (D.sub fl1) A
 refine Xc 29 #[] #[] _ _ R R R R y ?_
 rintro L bf ⟨rfl, U⟩
 refine ⟨.inr U, ?_⟩
 have g := Stp.ext (ls := [[b], j]) U
 have i := i.step g
 have h := h.step g
 have e := U.box e nn
 have f := f.ev U
 have c := c.ext U
 refine Xu 2 [(33, .bool (((n).length : Int) != ak)), (34, .bool (((n).length : Int) != ak))] (Xk (Cn [(3, Vp b 0), (34, .bool (((n).length : Int) != ak))] (fun o => ?_)))
 refine Ci (((n).length : Int) != ak) R a (fun a => ?_) (fun a => ?_)
 · refine Cs (Xu 1 [(4, Vi 1)] (Xk (Cr (Kr (Rr (Rv [Vi 1] ⟨R, T0⟩ ?_))))))
   obtain rfl := Sj a
   exact ⟨R, c⟩
 refine Ck (Kt (Cq (Cs (Yg b 0 2 (Vl k d l) R R (Rf tfld40_1 _ _) tcell38 e nn R (Xn (vs := [Vl k d l]) (Vi ((d).length : Int)) R R R (Rl tsl38 _ _ _ _ _) (Xu 1 [(38, Vi 0)] (Xk (Cb ?_))))))))
 obtain ⟨aJ, ar, aC⟩ := Bs a
 obtain ⟨Y, ar⟩ := Lo ar
 refine Cl (Lr hmx (σ := Nat × Int) (fun B => match B with | (_, C) => [(3, Vp b 0), (36, Vl k d l), (37, Vi ((d).length : Int)), (38, Vi C)]) (fun B s => match B with | (aA, C) => loopN (runoff_check_L15 d) aA C = some aJ ∧ Ev [] r s ∧ MS s [[b], j] ∧ FR r.heap.size [[b]] ∧ SlR (eProd eI eI) s (fl [[b], j]) k l d ∧ SlR eI s (fl [[b], j]) t u n ∧ s.heap[b]? = some (.cells #[Vi v, Vi q, Vl k d l, Vi H, Vl t n u] 40 (0, 0))) (fun B => B.1) (Y, 0) ⟨R, R, R, R, T0⟩ ⟨ar, c, f, m, i, h, e⟩ ?_)
 rintro ⟨Y, C⟩ o bi ⟨Q, c, f, m, i, h, e⟩
 rcases Y with _ | Y
 · exact (Lz Q).elim
 obtain ⟨bd, a, Q⟩ := Bs Q
 refine Cs (Xu 1 [(39, Bd (C < ((d).length : Int)))] (Xk (Cn [(3, Vp b 0), (36, Vl k d l), (37, Vi ((d).length : Int)), (38, Vi C), (39, Bd (C < ((d).length : Int)))] (fun o => ?_))))
 refine Cq (Ci (decide (C < ((d).length : Int))) R a (fun a => ?_) (fun a => ?_))
 · refine Ck (Kt (Cq (Cb (Cs ?_))))
   obtain ⟨I, a0, a⟩ := Bs a
   obtain ⟨aH, a8, aU, aO, ap⟩ := Ri (Mo := []) tsl38 i a0
   obtain ⟨_, _, rfl, rfl, rfl⟩ := ap
   refine Yi _ _ _ R aU (Yl (.pointer (some aH)) (.agg #[Vi I.1, Vi I.2]) R (reads_agg tagg37 aO (fun _ a => by cases a)) ?_)
   refine Xa (z := .agg #[Vi 0, Vi 0]) R R (by kernel_rfl) (fun ab a3 ax O ad ba => ?_)
   replace O : a3.heap[ab]? = some (.cells #[Vi 0, Vi 0] 37 (0, 0)) := O
   refine I1 ?_
   have g := Stp.box (ls := [[b], j]) ad ax
   have e := ad.box e nn
   have i := i.step g
   have h := h.step g
   have f := f.box ad ax O
   have m := m.box c.size ax
   have c := c.ext ad
   obtain ⟨aE, aX, aL, ae⟩ := Sa [Vi I.1, Vi I.2] tagg37 O R R R
   refine Ys aE _ _ R aX (I1 ?_)
   have g := Stp.ev' (ls := [[ab], [b], j]) ae (Mf 0 R)
   have e := ae.box e (f.apart 1 0 R R R _ mem1)
   have i := i.step g
   have h := h.step g
   have f := f.ev ae
   have c := c.then ae (fun an aq => .inr (m.at 0 R an aq))
   have O := aL
   refine Xk (Cs (Yl _ _ R (Ra 0 [Vi I.1, Vi I.2] tagg37 O nn R) ?_))
   obtain ⟨aG, A, a⟩ := Bs a
   have y := interval_Valid_w I.1 I.2 _ aE A
   refine Xc 63 #[] #[] _ _ R R R R y ?_
   rintro L bg ⟨rfl, af⟩
   refine I1 ?_
   have g := Stp.ext (ls := [[ab], [b], j]) af
   have e := af.box e nn
   have i := i.step g
   have h := h.step g
   have f := f.ev af
   have c := c.ext af
   refine Xu 1 [(44, .bool (!aG))] (Xk (Ci (!aG) R a (fun a => ?_) (fun a => ?_)))
   · refine Cs (Xu 1 [(4, Vi 1)] (Xk (Cr (Kb (Kr ?_)))))
     obtain rfl := Sj a
     have G := Sj Q
     subst G
     have a := aC
     refine Kr (Kb (Kr (Rr (Rv [Vi 1] ⟨R, T0⟩ ?_))))
     obtain rfl := Sj a
     exact ⟨R, c⟩
   refine Ck (Kl (Kt (Cp (Xu 2 [(45, Vi (i64.wrap (C + 1))), (38, Vi (i64.wrap (C + 1)))] (Xe R ?_)))))
   obtain rfl := Sj a
   have aw := f.pk [1, 2] [[b], j] R
   have X := Pk (ls := [[ab], [b], j]) [1, 2] [[b], j] R
   have i := i.sub X
   have h := h.sub X
   have f := aw
   have m := m.pk [1] [[b]] R
   exact Kt ⟨(Y, i64.wrap (C + 1)), ⟨R, R, R, R, T0⟩, ⟨Q, c, f, m, i, h, e⟩, Ns _⟩
 refine Ce (Ke ?_)
 obtain rfl := Sj a
 have G := Sj Q
 subst G
 have a := aC
 refine Ke (Ki (Kt (Cn [(3, Vp b 0)] (fun o => ?_))))
 refine Cq (Cs (Yg b 0 2 (Vl k d l) R R (Rf tfld40_1 _ _) tcell38 e nn R (Xn (vs := [Vl k d l]) (Vi ((d).length : Int)) R R R (Rl tsl38 _ _ _ _ _) (Xu 1 [(49, Vi 0)] (Xk (Cb ?_))))))
 obtain ⟨aK, au, ao⟩ := Bs a
 obtain ⟨Z, au⟩ := Lo au
 refine Cl (Lr hmx (σ := Nat × Int) (fun B => match B with | (_, w) => [(3, Vp b 0), (47, Vl k d l), (48, Vi ((d).length : Int)), (49, Vi w)]) (fun B s => match B with | (aA, w) => loopN (runoff_check_L25 d) aA w = some aK ∧ Ev [] r s ∧ MS s [[b], j] ∧ FR r.heap.size [[b]] ∧ SlR (eProd eI eI) s (fl [[b], j]) k l d ∧ SlR eI s (fl [[b], j]) t u n ∧ s.heap[b]? = some (.cells #[Vi v, Vi q, Vl k d l, Vi H, Vl t n u] 40 (0, 0))) (fun B => B.1) (Z, 0) ⟨R, R, R, R, T0⟩ ⟨au, c, f, m, i, h, e⟩ ?_)
 rintro ⟨Z, w⟩ o a7 ⟨K, c, f, m, i, h, e⟩
 rcases Z with _ | Z
 · exact (Lz K).elim
 obtain ⟨be, a, K⟩ := Bs K
 refine Cs (Xu 1 [(50, Bd (w < ((d).length : Int)))] (Xk (Cn [(3, Vp b 0), (47, Vl k d l), (48, Vi ((d).length : Int)), (49, Vi w), (50, Bd (w < ((d).length : Int)))] (fun o => ?_))))
 refine Cq (Ci (decide (w < ((d).length : Int))) R a (fun a => ?_) (fun a => ?_))
 · refine Ck (Kt (Cq (Cb (Cs ?_))))
   obtain ⟨x, a1, a⟩ := Bs a
   obtain ⟨aI, a9, aY, aQ, ap⟩ := Ri (Mo := []) tsl38 i a1
   obtain ⟨_, _, rfl, rfl, rfl⟩ := ap
   refine Yi _ _ _ R aY (Yl (.pointer (some aI)) (.agg #[Vi x.1, Vi x.2]) R (reads_agg tagg37 aQ (fun _ a => by cases a)) ?_)
   refine Xa (z := .agg #[Vi 0, Vi 0]) R R (by kernel_rfl) (fun S a4 ay J ag bb => ?_)
   replace J : a4.heap[S]? = some (.cells #[Vi 0, Vi 0] 37 (0, 0)) := J
   refine I1 ?_
   have g := Stp.box (ls := [[b], j]) ag ay
   have e := ag.box e nn
   have i := i.step g
   have h := h.step g
   have f := f.box ag ay J
   have m := m.box c.size ay
   have c := c.ext ag
   obtain ⟨a5, aZ, aN, ah⟩ := Sa [Vi x.1, Vi x.2] tagg37 J R R R
   refine Ys a5 _ _ R aZ (I1 ?_)
   have g := Stp.ev' (ls := [[S], [b], j]) ah (Mf 0 R)
   have e := ah.box e (f.apart 1 0 R R R _ mem1)
   have i := i.step g
   have h := h.step g
   have f := f.ev ah
   have c := c.then ah (fun an aq => .inr (m.at 0 R an aq))
   have J := aN
   refine Xk (Cs (Yg S 0 0 (Vi x.1) R R (Rf tfld37_0 _ _) tcell3 J nn R (Xu 2 [(55, Bd (x.1 < (-5000))), (56, Bd (x.1 < (-5000)))] (Xw 56 (decide (x.1 < (-5000))) R a (fun a => ?_) (fun a => ?_)))))
   · refine Xu 4 [(57, U0), (58, U0), (59, U0), (60, .bool true)] (Xk (c_true R (Cs (Xu 1 [(4, Vi 2)] (Xk (Cn [(4, Vi 2)] (fun o => ?_)))))))
     refine Cr (Kb (Kr ?_))
     obtain rfl := Sj a
     have G := Sj K
     subst G
     have a := ao
     refine Kr (Kb (Kr (Rr (Rv [Vi 2] ⟨R, T0⟩ ?_))))
     obtain rfl := Sj a
     exact ⟨R, c⟩
   refine Yg S 0 1 (Vi x.2) R R (Rf tfld37_1 _ _) tcell3 J nn R (Xu 2 [(59, Bd (x.2 > 10000)), (60, Bd (x.2 > 10000))] (Xk (Ci (decide (x.2 > 10000)) R a (fun a => ?_) (fun a => ?_))))
   · refine Cs (Xu 1 [(4, Vi 2)] (Xk (Cn [(4, Vi 2)] (fun o => ?_))))
     refine Cr (Kb (Kr ?_))
     obtain rfl := Sj a
     have G := Sj K
     subst G
     have a := ao
     refine Kr (Kb (Kr (Rr (Rv [Vi 2] ⟨R, T0⟩ ?_))))
     obtain rfl := Sj a
     exact ⟨R, c⟩
   refine Ck (Kl (Kt (Cn [(3, Vp b 0), (47, Vl k d l), (48, Vi ((d).length : Int)), (49, Vi w)] (fun o => ?_))))
   refine Cp (Xu 2 [(61, Vi (i64.wrap (w + 1))), (49, Vi (i64.wrap (w + 1)))] (Xe R ?_))
   obtain rfl := Sj a
   have aw := f.pk [1, 2] [[b], j] R
   have X := Pk (ls := [[S], [b], j]) [1, 2] [[b], j] R
   have i := i.sub X
   have h := h.sub X
   have f := aw
   have m := m.pk [1] [[b]] R
   exact Kt ⟨(Z, i64.wrap (w + 1)), ⟨R, R, R, R, T0⟩, ⟨K, c, f, m, i, h, e⟩, Ns _⟩
 refine Ce (Ke ?_)
 obtain rfl := Sj a
 have G := Sj K
 subst G
 have a := ao
 refine Ke (Ki (Kt (Cn [(3, Vp b 0)] (fun o => ?_))))
 refine Cq (Cs (Yf (Vp b 0) (Vp b 0) R (Rf tfld40_0 _ _) (Yg b 0 0 (Vi v) R R (Rf tfld37_0 _ _) tcell3 e nn R (Xu 2 [(65, Bd (v < 0)), (66, Bd (v < 0))] (Xw 66 (decide (v < 0)) R a (fun a => ?_) (fun a => ?_))))))
 · refine Xu 17 [(67, U0), (68, U0), (69, U0), (70, U0), (71, .bool true), (72, .bool true), (73, U0), (74, U0), (75, U0), (76, U0), (77, .bool true), (78, .bool true), (79, U0), (80, U0), (81, U0), (82, U0), (83, .bool true)] (Xk (Cn [(83, .bool true)] (fun o => ?_)))
   refine c_true R (Cs (Xu 1 [(4, Vi 2)] (Xk (Cr (Kr (Rr (Rv [Vi 2] ⟨R, T0⟩ ?_)))))))
   obtain rfl := Sj a
   exact ⟨R, c⟩
 refine Yf (Vp b 0) (Vp b 0) R (Rf tfld40_0 _ _) (Yg b 0 1 (Vi q) R R (Rf tfld37_1 _ _) tcell3 e nn R (Xu 3 [(70, Bd (q > 20000)), (71, Bd (q > 20000)), (72, Bd (q > 20000))] (Xw 72 (decide (q > 20000)) R a (fun a => ?_) (fun a => ?_))))
 · refine Xu 11 [(73, U0), (74, U0), (75, U0), (76, U0), (77, .bool true), (78, .bool true), (79, U0), (80, U0), (81, U0), (82, U0), (83, .bool true)] (Xk (Cn [(83, .bool true)] (fun o => ?_)))
   refine c_true R (Cs (Xu 1 [(4, Vi 2)] (Xk (Cr (Kr (Rr (Rv [Vi 2] ⟨R, T0⟩ ?_)))))))
   obtain rfl := Sj a
   exact ⟨R, c⟩
 refine Yg b 0 3 (Vi H) R R (Rf tfld40_2 _ _) tcell3 e nn R ?_
 obtain ⟨al, A, a⟩ := Bs a
 have y := runoff_in_w H 0 1000 _ a7 A
 refine Xc 30 #[] #[] _ _ R R R R y ?_
 rintro L a6 ⟨rfl, ai⟩
 refine I1 ?_
 have g := Stp.ext (ls := [[b], j]) ai
 have e := ai.box e nn
 have h := h.step g
 have f := f.ev ai
 have c := c.ext ai
 refine Xu 3 [(76, .bool (!al)), (77, .bool (!al)), (78, .bool (!al))] (Xw 78 (!al) R a (fun a => ?_) (fun a => ?_))
 · refine Xu 5 [(79, U0), (80, U0), (81, U0), (82, U0), (83, .bool true)] (Xk (Cn [(83, .bool true)] (fun o => ?_)))
   refine c_true R (Cs (Xu 1 [(4, Vi 2)] (Xk (Cr (Kr (Rr (Rv [Vi 2] ⟨R, T0⟩ ?_)))))))
   obtain rfl := Sj a
   exact ⟨R, c⟩
 refine Yg b 0 4 (Vl t n u) R R (Rf tfld40_3 _ _) tcell22 e nn R ?_
 obtain ⟨am, A, a⟩ := Bs a
 have y := runoff_targets_w t u n _ a6 (fl [[b], j]) (MS.fold (P := []) f) (h.sub fl1) A
 refine Xc 31 #[] #[] _ _ R R R R y ?_
 rintro L bh ⟨rfl, aS⟩
 refine I1 ?_
 have c := c.ext aS
 refine Xu 2 [(82, .bool (!am)), (83, .bool (!am))] (Xk (Cn [(83, .bool (!am))] (fun o => ?_)))
 refine Ci (!am) R a (fun a => ?_) (fun a => ?_)
 · refine Cs (Xu 1 [(4, Vi 2)] (Xk (Cr (Kr (Rr (Rv [Vi 2] ⟨R, T0⟩ ?_))))))
   obtain rfl := Sj a
   exact ⟨R, c⟩
 refine Ck (Kt (Cs (Xu 1 [(4, Vi 0)] (Xk (Cr (Rr (Rv [Vi 0] ⟨R, T0⟩ ?_)))))))
 obtain rfl := Sj a
 exact ⟨R, c⟩
def runoff_gain (f : Int) (a : Int) (b : Int) (g : Int) (h : Int) (c : Int) : Option (Int × Int) :=
((interval_Floor (i64.wrap ((i64.wrap (19620 * (i64.wrap (b - c)))) * a)) 100000).bind fun d =>
((interval_Ceil (i64.wrap ((i64.wrap (19620 * (i64.wrap (b - c)))) * a)) 100000).bind fun e =>
some (d.1, e.1)))
theorem runoff_gain_w (j c a k l b p h) (g : runoff_gain j c a k l b = some p) : CallVC Tryz.prog 33 [.agg #[Vi j, Vi c, Vi a, Vi k, Vi l], Vi b] h fun q x => q = .tuple #[Vi p.1, Vi p.2] ∧ Ev [] h x := by
 refine Cv hmx Tryz.func33 (by kernel_rfl) R (rs := [.tmp 4, .tmp 5]) R (by kernel_rfl) (args := [.agg #[Vi j, Vi c, Vi a, Vi k, Vi l], Vi b]) R ?_
 have f : Ev [] h h := Ev.refl _ _
 have B : MS h [[]] := ⟨List.pairwise_singleton _ _, fun E r A t => by simp only [List.mem_singleton] at r; subst r; cases t⟩
 refine Cs (Yb _ R (fun m s C i u D => ?_))
 replace i : s.heap[m]? = some (.cells #[Vi j, Vi c, Vi a, Vi k, Vi l] 35 (0, 0)) := i
 refine I1 ?_
 have f := f.ext u
 refine Xu 2 [(4, Vi 0), (5, Vi 0)] (Xk (Cs (Yg m 0 2 (Vi a) R R (Rf tfld35_2 _ _) tcell3 i nn R (Xu 3 [(9, Vi b), (10, Vi (i64.wrap (a - b))), (11, Vi (i64.wrap (19620 * (i64.wrap (a - b)))))] (Yg m 0 1 (Vi c) R R (Rf tfld35_1 _ _) tcell3 i nn R (Xu 2 [(14, Vi (i64.wrap ((i64.wrap (19620 * (i64.wrap (a - b)))) * c))), (6, Vi (i64.wrap ((i64.wrap (19620 * (i64.wrap (a - b)))) * c)))] (Xk ?_)))))))
 refine Cs (Xu 1 [(16, Vi (i64.wrap ((i64.wrap (19620 * (i64.wrap (a - b)))) * c)))] ?_)
 obtain ⟨d, o, g⟩ := Bs g
 have n := interval_Floor_w (i64.wrap ((i64.wrap (19620 * (i64.wrap (a - b)))) * c)) 100000 _ s o
 refine Xc 54 #[] #[] _ _ R R R R n ?_
 rintro q y ⟨rfl, v⟩
 refine I1 ?_
 have f := f.ext v
 refine Xu 4 [(15, .tuple #[Vi d.1, Vi d.2]), (18, Vi d.1), (19, Vi d.2), (4, Vi d.1)] (Xk (Cn [(4, Vi d.1), (6, Vi (i64.wrap ((i64.wrap (19620 * (i64.wrap (a - b)))) * c)))] (fun z => ?_)))
 refine Cs (Xu 1 [(21, Vi (i64.wrap ((i64.wrap (19620 * (i64.wrap (a - b)))) * c)))] ?_)
 obtain ⟨e, o, g⟩ := Bs g
 have n := interval_Ceil_w (i64.wrap ((i64.wrap (19620 * (i64.wrap (a - b)))) * c)) 100000 _ y o
 refine Xc 55 #[] #[] _ _ R R R R n ?_
 rintro q F ⟨rfl, w⟩
 refine I1 ?_
 have f := f.ext w
 refine Xu 4 [(20, .tuple #[Vi e.1, Vi e.2]), (23, Vi e.1), (24, Vi e.2), (5, Vi e.1)] (Xk (Cs (Xu 4 [(25, Vi d.1), (26, Vi e.1), (4, Vi d.1), (5, Vi e.1)] (Xk (Cr (Rr (Rv [Vi d.1, Vi e.1] ⟨R, R, T0⟩ ?_)))))))
 obtain rfl := Sj g
 exact ⟨R, f⟩
def runoff_roots (a : Int) : Option (Int × Int) :=
((interval_Root a a).bind fun b =>
some (b.1.1, b.1.2))
theorem runoff_roots_w (b j e) (g : runoff_roots b = some j) : CallVC Tryz.prog 32 [Vi b] e fun n w => n = .tuple #[Vi j.1, Vi j.2] ∧ Ev [] e w := by
 refine Cv hmx Tryz.func32 (by kernel_rfl) R (rs := [.tmp 2, .tmp 3]) R (by kernel_rfl) (args := [Vi b]) R ?_
 have c : Ev [] e e := Ev.refl _ _
 have A : MS e [[]] := ⟨List.pairwise_singleton _ _, fun C m l h => by simp only [List.mem_singleton] at m; subst m; cases h⟩
 have i : FR e.heap.size [] := FR.nil _
 refine Cs (Xu 2 [(2, Vi 0), (3, Vi 0)] (Xk (Cs (Xu 2 [(7, Vi b), (8, Vi b)] (Xd (vs := [(0, Vi b), (1, Vi b)]) (.agg #[Vi b, Vi b]) R R R (fun _ _ => by kernel_rfl) ?_)))))
 obtain ⟨a, v, g⟩ := Bs g
 have p := interval_Root_w b b _ e v
 refine Xc 53 #[] #[] _ _ R R R R p ?_
 rintro n D ⟨rfl, q⟩
 refine I1 ?_
 have c := c.ext q
 refine Xu 3 [(6, .tuple #[.agg #[Vi a.1.1, Vi a.1.2], Vi a.2]), (11, .agg #[Vi a.1.1, Vi a.1.2]), (12, Vi a.2)] (Xa (z := .agg #[Vi 0, Vi 0]) R R (by kernel_rfl) (fun f x t d r B => ?_))
 replace d : x.heap[f]? = some (.cells #[Vi 0, Vi 0] 37 (0, 0)) := d
 refine I1 ?_
 have i := i.box c.size t
 have c := c.ext r
 obtain ⟨k, u, o, s⟩ := Sa [Vi a.1.1, Vi a.1.2] tagg37 d R R R
 refine Ys k _ _ R u (I1 ?_)
 have c := c.then s (fun l h => .inr (i.at 0 R l h))
 have d := o
 refine Xu 1 [(5, Vi a.2)] (Xk (Cq (Cd [] [(0, false), (1, false), (2, false), (3, false), (4, false), (5, false)] _ (by kernel_rfl) R ?_)))
 have d := (Ev.drew k).box d nn
 have c := c.ext (Ev.drew k)
 refine Yg f 0 0 (Vi a.1.1) R R (Rf tfld37_0 _ _) tcell3 d nn R (Yg f 0 1 (Vi a.1.2) R R (Rf tfld37_1 _ _) tcell3 d nn R (Xu 2 [(2, Vi a.1.1), (3, Vi a.1.2)] (Xk (Cn [(2, Vi a.1.1), (3, Vi a.1.2)] (fun y => ?_)))))
 refine Cr (Rr (Rv [Vi a.1.1, Vi a.1.2] ⟨R, R, T0⟩ ?_))
 obtain rfl := Sj g
 exact ⟨R, c⟩
def runoff_state_roll_J27 (d : Int) (i : Int) (j : Int) (a : Int) (k : Int × Int) (h : Int) (b : Int × Int) (e : Int × Int) (c : Int × Int) (f : Int × Int) (g : Bool) : Option (Bool × Int × Int × Int × Int × Bool) :=
(if g = true then
some (true, if 1000000000 < (i64.wrap (d + (i64.wrap (Int.tdiv (i64.wrap (2000 * a)) (i64.wrap (e.2 + f.2)))))) then 1000000000 else (i64.wrap (d + (i64.wrap (Int.tdiv (i64.wrap (2000 * a)) (i64.wrap (e.2 + f.2)))))), 1000000000, h, i64.wrap (j + k.2), g)
else
(if i64.wrap (b.1 + c.1) ≠ 0 then
some (true, if 1000000000 < (i64.wrap (d + (i64.wrap (Int.tdiv (i64.wrap (2000 * a)) (i64.wrap (e.2 + f.2)))))) then 1000000000 else (i64.wrap (d + (i64.wrap (Int.tdiv (i64.wrap (2000 * a)) (i64.wrap (e.2 + f.2)))))), if 1000000000 < (i64.wrap (i + (i64.wrap (Int.tdiv (i64.wrap ((i64.wrap ((i64.wrap ((i64.wrap (2000 * a)) + b.1)) + c.1)) - 1)) (i64.wrap (b.1 + c.1)))))) then 1000000000 else (i64.wrap (i + (i64.wrap (Int.tdiv (i64.wrap ((i64.wrap ((i64.wrap ((i64.wrap (2000 * a)) + b.1)) + c.1)) - 1)) (i64.wrap (b.1 + c.1)))))), h, i64.wrap (j + k.2), g)
else none))
def runoff_state_roll_J14 (e : Int) (f : Int) (k : Int) (a : Int) (l : Int) (i : Int × Int) (j : Bool) (d : Int) : Option (Bool × Int × Int × Int × Int × Bool) :=
((runoff_roots k).bind fun g =>
((runoff_roots a).bind fun b =>
((runoff_roots d).bind fun h =>
((runoff_roots (i64.wrap (a + i.2))).bind fun c =>
(if ((i64.wrap (b.2 + c.2)) == 0) = true then
some (false, e, f, k, a, j)
else
(if i64.wrap (b.2 + c.2) ≠ 0 then
(if ((i64.wrap (g.1 + h.1)) == 0) = true then
runoff_state_roll_J27 e f a l i d g b h c true
else
runoff_state_roll_J27 e f a l i d g b h c j)
else none))))))
def runoff_state_roll (d : Int) (e : Int) (a : Int) (b : Int) (g : Bool) (h : Int) (c : Int) (i : Int) (j : Int) (k : Int) (m : Int) (n : Int) : Option (Bool × Int × Int × Int × Int × Bool) :=
((runoff_gain h c i j k n).bind fun l =>
((runoff_gain h c i j k m).bind fun f =>
(if (decide ((i64.wrap (b + f.2)) < 0)) = true then
some (false, d, e, a, b, g)
else
(if (decide ((i64.wrap (a + l.1)) < 0)) = true then
runoff_state_roll_J14 d e a b c f true 0
else
runoff_state_roll_J14 d e a b c f g (i64.wrap (a + l.1))))))
theorem runoff_state_roll_w (a o s r m aq E e F G H Q S J C U) (c : MS C [[a], U]) (b : C.heap[a]? = some (.cells #[Vi o, Vi s, Vi r, Vi m, .bool aq] 150 (0, 0))) (i : runoff_state_roll o s r m aq E e F G H Q S = some J) : CallVC Tryz.prog 51 [Vp a 0, .agg #[Vi E, Vi e, Vi F, Vi G, Vi H], .agg #[Vi Q, Vi S]] C fun N x => N = .bool J.1 ∧ Ev [a] C x ∧ x.heap[a]? = some (.cells #[Vi J.2.1, Vi J.2.2.1, Vi J.2.2.2.1, Vi J.2.2.2.2.1, .bool J.2.2.2.2.2] 150 (0, 0)) := by
 refine Cv hmx Tryz.func51 (by kernel_rfl) R (rs := [.tmp 6]) R (by kernel_rfl) (args := [Vp a 0, .agg #[Vi E, Vi e, Vi F, Vi G, Vi H], .agg #[Vi Q, Vi S]]) R ?_
 have d : Ev [a] C C := Ev.refl _ _
 have t : FR C.heap.size [] := FR.nil _
 refine Cs (Yb _ R (fun q a4 aw g ao bg => ?_))
 replace g : a4.heap[q]? = some (.cells #[Vi E, Vi e, Vi F, Vi G, Vi H] 35 (0, 0)) := g
 refine I1 ?_
 have b := ao.box b nn
 have c := c.box ao aw g
 have t := t.box d.size aw
 have d := d.ext ao
 refine Yb _ R (fun an ay ax K ak bh => ?_)
 replace K : ay.heap[an]? = some (.cells #[Vi Q, Vi S] 37 (0, 0)) := K
 refine I1 ?_
 have b := ak.box b nn
 have g := ak.box g nn
 have c := c.box ak ax K
 have t := t.box d.size ax
 have d := d.ext ak
 refine Xu 1 [(6, .bool false)] (Xk (Cs (Yl _ _ R (Ra 0 [Vi E, Vi e, Vi F, Vi G, Vi H] tagg35 g nn R) (Yg an 0 1 (Vi S) R R (Rf tfld37_1 _ _) tcell3 K nn R ?_))))
 obtain ⟨v, B, i⟩ := Bs i
 have A := runoff_gain_w E e F G H S _ ay B
 refine Xc 33 #[] #[] _ _ R R R R A ?_
 rintro N bd ⟨rfl, ac⟩
 refine I1 ?_
 have b := ac.box b nn
 have g := ac.box g nn
 have K := ac.box K nn
 have c := c.ev ac
 have d := d.ext ac
 refine Xu 5 [(20, .tuple #[Vi v.1, Vi v.2]), (25, Vi v.1), (26, Vi v.2), (7, Vi v.1), (8, Vi v.2)] (Xk (Cs (Yl _ _ R (Ra 0 [Vi E, Vi e, Vi F, Vi G, Vi H] tagg35 g nn R) (Yg an 0 0 (Vi Q) R R (Rf tfld37_0 _ _) tcell3 K nn R ?_))))
 obtain ⟨n, B, i⟩ := Bs i
 have A := runoff_gain_w E e F G H Q _ bd B
 refine Xc 33 #[] #[] _ _ R R R R A ?_
 rintro N am ⟨rfl, al⟩
 refine I1 ?_
 have b := al.box b nn
 have g := al.box g nn
 have c := c.ev al
 have d := d.ext al
 refine Xu 5 [(27, .tuple #[Vi n.1, Vi n.2]), (32, Vi n.1), (33, Vi n.2), (9, Vi n.1), (10, Vi n.2)] (Xk (Cn [(0, Vp a 0), (4, Vp q 0), (7, Vi v.1), (10, Vi n.2)] (fun I => ?_)))
 refine Cq (Cd [] [(0, false), (1, false), (2, false), (3, false), (4, false), (5, false), (6, false), (7, false), (8, false), (9, false), (10, false), (11, false), (12, false), (13, false), (14, false), (15, false), (16, true)] _ (by kernel_rfl) R ?_)
 have b := (Ev.drew am).box b nn
 have g := (Ev.drew am).box g nn
 have c := c.ev (Ev.drew am)
 have d := d.ext (Ev.drew am)
 refine Xu 2 [(34, Vp a 0), (35, Vp a 0)] (Yf (Vp a 0) (Vp a 2) R (Rf tfld150_1 _ _) (Yg a 2 2 (Vi r) R R (Rf tfld37_0 _ _) tcell3 b nn R (Xu 4 [(39, Vi v.1), (40, Vi (i64.wrap (r + v.1))), (41, Vp a 0), (42, Vp a 0)] (Yf (Vp a 0) (Vp a 2) R (Rf tfld150_1 _ _) (Yg a 2 3 (Vi m) R R (Rf tfld37_1 _ _) tcell3 b nn R (Xu 2 [(46, Vi n.2), (47, Vi (i64.wrap (m + n.2)))] (Xd (vs := [(0, Vi (i64.wrap (r + v.1))), (1, Vi (i64.wrap (m + n.2)))]) (.agg #[Vi (i64.wrap (r + v.1)), Vi (i64.wrap (m + n.2))]) R R R (fun _ _ => by kernel_rfl) ?_)))))))
 refine Xa (z := .agg #[Vi 0, Vi 0]) R R (by kernel_rfl) (fun p aZ av j X bf => ?_)
 replace j : aZ.heap[p]? = some (.cells #[Vi 0, Vi 0] 37 (0, 0)) := j
 refine ⟨.inr X, ?_⟩
 have b := X.box b nn
 have g := X.box g nn
 have c := c.box X av j
 have t := t.box d.size av
 have d := d.ext X
 obtain ⟨a0, aK, az, af⟩ := Sa [Vi (i64.wrap (r + v.1)), Vi (i64.wrap (m + n.2))] tagg37 j R R R
 refine Ys a0 _ _ R aK (I1 ?_)
 have b := af.box b (c.apart 3 0 R R R _ mem1)
 have g := af.box g (c.apart 2 0 R R R _ mem1)
 have c := c.ev af
 have d := d.then af (fun D u => .inr (t.at 0 R D u))
 have j := az
 refine Xk (Cn [(0, Vp a 0), (4, Vp q 0), (11, Vp p 0)] (fun I => ?_))
 refine Cq (Cs (Yg p 0 1 (Vi (i64.wrap (m + n.2))) R R (Rf tfld37_1 _ _) tcell3 j nn R (Xu 1 [(51, Bd ((i64.wrap (m + n.2)) < 0))] (Xk (Ci (decide ((i64.wrap (m + n.2)) < 0)) R i (fun i => ?_) (fun i => ?_))))))
 · refine Cs (Xu 1 [(6, .bool false)] (Xk (Cr (Kr (Rr (Rv [.bool false] ⟨R, T0⟩ ?_))))))
   obtain rfl := Sj i
   exact ⟨R, d, b⟩
 refine Ck (Kt (c_join (σ := Bool × Int) (fun L => match L with | (O, w) => [(0, Vp a 0), (4, Vp q 0), (11, Vp p 0)]) (fun L x => match L with | (O, w) => runoff_state_roll_J14 o s r m e n O w = some J ∧ Ev [a] C x ∧ MS x [[q], [p], [a], U] ∧ FR C.heap.size [[q], [p]] ∧ x.heap[a]? = some (.cells #[Vi o, Vi s, Vi r, Vi m, .bool O] 150 (0, 0)) ∧ x.heap[q]? = some (.cells #[Vi E, Vi e, Vi F, Vi G, Vi H] 35 (0, 0)) ∧ x.heap[p]? = some (.cells #[Vi w, Vi (i64.wrap (m + n.2))] 37 (0, 0))) ?_ ?_))
 · refine Cs (Yg p 0 0 (Vi (i64.wrap (r + v.1))) R R (Rf tfld37_0 _ _) tcell3 j nn R (Xu 1 [(54, Bd ((i64.wrap (r + v.1)) < 0))] (Xk (Ci (decide ((i64.wrap (r + v.1)) < 0)) R i (fun i => ?_) (fun i => ?_)))))
   · refine Cp (Xu 1 [(55, Vp a 0)] (Yf (Vp p 0) (Vp p 0) R (Rf tfld37_0 _ _) ?_))
     obtain ⟨a1, aL, aA, ag⟩ := store_box 0 (Vi 0) #[Vi 0, Vi (i64.wrap (m + n.2))] tcell3 j R R R
     refine Ys a1 _ _ R aL (I1 ?_)
     have b := ag.box b (c.apart 3 0 R R R _ mem1)
     have g := ag.box g (c.apart 2 0 R R R _ mem1)
     have c := c.ev ag
     have d := d.then ag (fun D u => .inr (t.at 0 R D u))
     have j := aA
     refine Xu 1 [(57, Vp a 0)] (Yf (Vp a 0) (Vp a 4) R (Rf tfld150_2 _ _) ?_)
     obtain ⟨a2, aN, aB, ah⟩ := store_box 4 (.bool true) #[Vi o, Vi s, Vi r, Vi m, .bool true] tcell4 b R R R
     refine Ys a2 _ _ R aN (I1 ?_)
     have g := ah.box g (c.apart 2 3 R R R _ mem1)
     have j := ah.box j (c.apart 0 3 R R R _ mem1)
     have c := c.ev ah
     have d := d.then ah (fun D u => .inl (by simpa using u))
     have b := aB
     refine Xe R ?_
     have ap := c.pk [2, 0, 3, 4] [[q], [p], [a], U] R
     have c := ap
     have t := t.pk [2, 0] [[q], [p]] R
     exact Kt ⟨(true, 0), ⟨R, R, R, T0⟩, i, d, c, t, b, g, j⟩
   refine Ck ?_
   have ap := c.pk [2, 0, 3, 4] [[q], [p], [a], U] R
   have c := ap
   have t := t.pk [2, 0] [[q], [p]] R
   exact Kt ⟨(aq, i64.wrap (r + v.1)), ⟨R, R, R, T0⟩, i, d, c, t, b, g, j⟩
 rintro ⟨O, w⟩ I be ⟨i, d, c, t, b, g, j⟩
 refine Cs (Xu 2 [(60, Vp a 0), (61, Vp a 0)] (Yf (Vp a 0) (Vp a 2) R (Rf tfld150_1 _ _) (Yg a 2 2 (Vi r) R R (Rf tfld37_0 _ _) tcell3 b nn R ?_)))
 obtain ⟨f, B, i⟩ := Bs i
 have A := runoff_roots_w r _ be B
 refine Xc 32 #[] #[] _ _ R R R R A ?_
 rintro N a3 ⟨rfl, Y⟩
 refine I1 ?_
 have b := Y.box b nn
 have g := Y.box g nn
 have j := Y.box j nn
 have c := c.ev Y
 have d := d.ext Y
 refine Xu 5 [(59, .tuple #[Vi f.1, Vi f.2]), (66, Vi f.1), (67, Vi f.2), (12, Vi f.1), (13, Vi f.2)] (Xk (Cn [(0, Vp a 0), (4, Vp q 0), (11, Vp p 0), (12, Vi f.1)] (fun I => ?_)))
 refine Cs (Xu 2 [(69, Vp a 0), (70, Vp a 0)] (Yf (Vp a 0) (Vp a 2) R (Rf tfld150_1 _ _) (Yg a 2 3 (Vi m) R R (Rf tfld37_1 _ _) tcell3 b nn R ?_)))
 obtain ⟨k, B, i⟩ := Bs i
 have A := runoff_roots_w m _ a3 B
 refine Xc 32 #[] #[] _ _ R R R R A ?_
 rintro N a5 ⟨rfl, Z⟩
 refine I1 ?_
 have b := Z.box b nn
 have g := Z.box g nn
 have j := Z.box j nn
 have c := c.ev Z
 have d := d.ext Z
 refine Xu 5 [(68, .tuple #[Vi k.1, Vi k.2]), (75, Vi k.1), (76, Vi k.2), (14, Vi k.1), (15, Vi k.2)] (Xk (Cs (Yg p 0 0 (Vi w) R R (Rf tfld37_0 _ _) tcell3 j nn R ?_)))
 obtain ⟨h, B, i⟩ := Bs i
 have A := runoff_roots_w w _ a5 B
 refine Xc 32 #[] #[] _ _ R R R R A ?_
 rintro N a6 ⟨rfl, aa⟩
 refine I1 ?_
 have b := aa.box b nn
 have g := aa.box g nn
 have j := aa.box j nn
 have c := c.ev aa
 have d := d.ext aa
 refine Xu 5 [(77, .tuple #[Vi h.1, Vi h.2]), (81, Vi h.1), (82, Vi h.2), (16, Vi h.1), (17, Vi h.2)] (Xk (Cn [(0, Vp a 0), (4, Vp q 0), (11, Vp p 0), (12, Vi f.1), (15, Vi k.2), (16, Vi h.1)] (fun I => ?_)))
 refine Cs (Yg p 0 1 (Vi (i64.wrap (m + n.2))) R R (Rf tfld37_1 _ _) tcell3 j nn R ?_)
 obtain ⟨l, B, i⟩ := Bs i
 have A := runoff_roots_w (i64.wrap (m + n.2)) _ a6 B
 refine Xc 32 #[] #[] _ _ R R R R A ?_
 rintro N ad ⟨rfl, ab⟩
 refine I1 ?_
 have b := ab.box b nn
 have g := ab.box g nn
 have j := ab.box j nn
 have c := c.ev ab
 have d := d.ext ab
 refine Xu 5 [(83, .tuple #[Vi l.1, Vi l.2]), (87, Vi l.1), (88, Vi l.2), (18, Vi l.1), (19, Vi l.2)] (Xk (Cq (Cs (Xu 4 [(89, Vi k.2), (90, Vi l.2), (91, Vi (i64.wrap (k.2 + l.2))), (92, .bool ((i64.wrap (k.2 + l.2)) == 0))] (Xk (Ci ((i64.wrap (k.2 + l.2)) == 0) R i (fun i => ?_) (fun i => ?_)))))))
 · refine Cs (Xu 1 [(6, .bool false)] (Xk (Cn [(6, .bool false)] (fun I => ?_))))
   refine Cr (Kr (Rr (Rv [.bool false] ⟨R, T0⟩ ?_)))
   obtain rfl := Sj i
   exact ⟨R, d, b⟩
 refine Ck (Kt (Cq (Cd [] [(0, false), (1, false), (2, false), (3, false), (4, false), (5, false), (6, false), (7, false), (8, false), (9, false), (10, false), (11, false), (12, false), (13, false), (14, false), (15, false), (16, false), (17, false), (18, true)] _ (by kernel_rfl) R ?_)))
 have b := (Ev.drew ad).box b nn
 have g := (Ev.drew ad).box g nn
 have j := (Ev.drew ad).box j nn
 have c := c.ev (Ev.drew ad)
 have d := d.ext (Ev.drew ad)
 refine Xu 3 [(93, Vp a 0), (94, Vp a 0), (95, Vp a 0)] (Yf (Vp a 0) (Vp a 0) R (Rf tfld150_0 _ _) (Yg a 0 0 (Vi o) R R (Rf tfld37_0 _ _) tcell3 b nn R (Yg q 0 1 (Vi e) R R (Rf tfld35_1 _ _) tcell3 g nn R (Xu 4 [(101, Vi (i64.wrap (2000 * e))), (102, Vi k.2), (103, Vi l.2), (104, Vi (i64.wrap (k.2 + l.2)))] (x_binop (Vi (i64.wrap (Int.tdiv (i64.wrap (2000 * e)) (i64.wrap (k.2 + l.2))))) (Vi (i64.wrap (2000 * e))) (Vi (i64.wrap (k.2 + l.2))) R R R R (vb_quo (Gl i)) ?_)))))
 have i := Gr i
 refine Xu 1 [(106, Vi (i64.wrap (o + (i64.wrap (Int.tdiv (i64.wrap (2000 * e)) (i64.wrap (k.2 + l.2)))))))] (x_min (vs := [Vi (i64.wrap (o + (i64.wrap (Int.tdiv (i64.wrap (2000 * e)) (i64.wrap (k.2 + l.2)))))), Vi 1000000000]) (Vi (if 1000000000 < (i64.wrap (o + (i64.wrap (Int.tdiv (i64.wrap (2000 * e)) (i64.wrap (k.2 + l.2)))))) then 1000000000 else (i64.wrap (o + (i64.wrap (Int.tdiv (i64.wrap (2000 * e)) (i64.wrap (k.2 + l.2)))))))) R R R (fun _ _ => R) (Xu 1 [(108, Vp a 0)] (Yf (Vp a 0) (Vp a 0) R (Rf tfld150_0 _ _) (Yf (Vp a 0) (Vp a 0) R (Rf tfld37_0 _ _) ?_))))
 obtain ⟨a7, aO, aC, ai⟩ := store_box 0 (Vi (if 1000000000 < (i64.wrap (o + (i64.wrap (Int.tdiv (i64.wrap (2000 * e)) (i64.wrap (k.2 + l.2)))))) then 1000000000 else (i64.wrap (o + (i64.wrap (Int.tdiv (i64.wrap (2000 * e)) (i64.wrap (k.2 + l.2)))))))) #[Vi (if 1000000000 < (i64.wrap (o + (i64.wrap (Int.tdiv (i64.wrap (2000 * e)) (i64.wrap (k.2 + l.2)))))) then 1000000000 else (i64.wrap (o + (i64.wrap (Int.tdiv (i64.wrap (2000 * e)) (i64.wrap (k.2 + l.2))))))), Vi s, Vi r, Vi m, .bool O] tcell3 b R R R
 refine Ys a7 _ _ R aO (I1 ?_)
 have g := ai.box g (c.apart 0 2 R R R _ mem1)
 have j := ai.box j (c.apart 1 2 R R R _ mem1)
 have c := c.ev ai
 have d := d.then ai (fun D u => .inl (by simpa using u))
 have b := aC
 refine Xk (Cn [(0, Vp a 0), (4, Vp q 0), (11, Vp p 0), (12, Vi f.1), (16, Vi h.1)] (fun I => ?_))
 refine c_join (σ := Bool) (fun L => match L with | y => [(0, Vp a 0), (4, Vp q 0), (11, Vp p 0), (12, Vi f.1), (16, Vi h.1)]) (fun L x => match L with | y => runoff_state_roll_J27 o s m e n w f k h l y = some J ∧ Ev [a] C x ∧ MS x [[q], [p], [a], U] ∧ FR C.heap.size [[q], [p]] ∧ x.heap[a]? = some (.cells #[Vi (if 1000000000 < (i64.wrap (o + (i64.wrap (Int.tdiv (i64.wrap (2000 * e)) (i64.wrap (k.2 + l.2)))))) then 1000000000 else (i64.wrap (o + (i64.wrap (Int.tdiv (i64.wrap (2000 * e)) (i64.wrap (k.2 + l.2))))))), Vi s, Vi r, Vi m, .bool y] 150 (0, 0)) ∧ x.heap[q]? = some (.cells #[Vi E, Vi e, Vi F, Vi G, Vi H] 35 (0, 0)) ∧ x.heap[p]? = some (.cells #[Vi w, Vi (i64.wrap (m + n.2))] 37 (0, 0))) ?_ ?_
 · refine Cs (Xu 4 [(111, Vi f.1), (112, Vi h.1), (113, Vi (i64.wrap (f.1 + h.1))), (114, .bool ((i64.wrap (f.1 + h.1)) == 0))] (Xk (Ci ((i64.wrap (f.1 + h.1)) == 0) R i (fun i => ?_) (fun i => ?_))))
   · refine Cp (Xu 2 [(115, Vp a 0), (116, Vp a 0)] (Yf (Vp a 0) (Vp a 4) R (Rf tfld150_2 _ _) ?_))
     obtain ⟨a8, aQ, aD, aj⟩ := store_box 4 (.bool true) #[Vi (if 1000000000 < (i64.wrap (o + (i64.wrap (Int.tdiv (i64.wrap (2000 * e)) (i64.wrap (k.2 + l.2)))))) then 1000000000 else (i64.wrap (o + (i64.wrap (Int.tdiv (i64.wrap (2000 * e)) (i64.wrap (k.2 + l.2))))))), Vi s, Vi r, Vi m, .bool true] tcell4 b R R R
     refine Ys a8 _ _ R aQ (I1 ?_)
     have g := aj.box g (c.apart 0 2 R R R _ mem1)
     have j := aj.box j (c.apart 1 2 R R R _ mem1)
     have c := c.ev aj
     have d := d.then aj (fun D u => .inl (by simpa using u))
     have b := aD
     refine Xe R ?_
     exact Kt ⟨true, ⟨R, R, R, R, R, T0⟩, i, d, c, t, b, g, j⟩
   refine Ck ?_
   exact Kt ⟨O, ⟨R, R, R, R, R, T0⟩, i, d, c, t, b, g, j⟩
 rintro y I ae ⟨i, d, c, t, b, g, j⟩
 refine Cq (Cs (Xu 2 [(118, Vp a 0), (119, Vp a 0)] (Yg a 0 4 (.bool y) R R (Rf tfld150_2 _ _) tcell4 b nn R (Xk (Cn [(0, Vp a 0), (4, Vp q 0), (11, Vp p 0), (12, Vi f.1), (16, Vi h.1), (121, .bool y)] (fun I => ?_))))))
 refine Ci y R i (fun i => ?_) (fun i => ?_)
 · refine Cp (Xu 2 [(122, Vp a 0), (123, Vp a 0)] (Yf (Vp a 0) (Vp a 0) R (Rf tfld150_0 _ _) (Yf (Vp a 0) (Vp a 1) R (Rf tfld37_1 _ _) ?_)))
   obtain ⟨a9, aS, aE, ar⟩ := store_box 1 (Vi 1000000000) #[Vi (if 1000000000 < (i64.wrap (o + (i64.wrap (Int.tdiv (i64.wrap (2000 * e)) (i64.wrap (k.2 + l.2)))))) then 1000000000 else (i64.wrap (o + (i64.wrap (Int.tdiv (i64.wrap (2000 * e)) (i64.wrap (k.2 + l.2))))))), Vi 1000000000, Vi r, Vi m, .bool y] tcell3 b R R R
   refine Ys a9 _ _ R aS (I1 ?_)
   have j := ar.box j (c.apart 1 2 R R R _ mem1)
   have d := d.then ar (fun D u => .inl (by simpa using u))
   have b := aE
   refine Xk (Cs (Xu 1 [(149, Vp a 0)] (Yl _ _ R (Ra 0 [Vi w, Vi (i64.wrap (m + n.2))] tagg37 j nn R) (Xu 1 [(151, Vp a 0)] (Yf (Vp a 0) (Vp a 2) R (Rf tfld150_1 _ _) ?_)))))
   obtain ⟨ba, aU, aF, aI⟩ := Sb 2 [Vi w, Vi (i64.wrap (m + n.2))] #[Vi (if 1000000000 < (i64.wrap (o + (i64.wrap (Int.tdiv (i64.wrap (2000 * e)) (i64.wrap (k.2 + l.2)))))) then 1000000000 else (i64.wrap (o + (i64.wrap (Int.tdiv (i64.wrap (2000 * e)) (i64.wrap (k.2 + l.2))))))), Vi 1000000000, Vi w, Vi (i64.wrap (m + n.2)), .bool y] tagg37 b R R R
   refine Ys ba _ _ R aU (I1 ?_)
   have d := d.then aI (fun D u => .inl (by simpa using u))
   have b := aF
   refine Xk (Cs (Xu 1 [(6, .bool true)] (Xk (Cr (Rr (Rv [.bool true] ⟨R, T0⟩ ?_))))))
   obtain rfl := Sj i
   exact ⟨R, d, b⟩
 refine Cd [] [(0, false), (1, false), (2, false), (3, false), (4, false), (5, false), (6, false), (7, false), (8, false), (9, false), (10, false), (11, false), (12, false), (13, false), (14, false), (15, false), (16, false), (17, false), (18, false), (19, false), (20, false), (21, false), (22, false), (23, true)] _ (by kernel_rfl) R ?_
 have b := (Ev.drew ae).box b nn
 have g := (Ev.drew ae).box g nn
 have j := (Ev.drew ae).box j nn
 have c := c.ev (Ev.drew ae)
 have d := d.ext (Ev.drew ae)
 refine Xu 3 [(126, Vp a 0), (127, Vp a 0), (128, Vp a 0)] (Yf (Vp a 0) (Vp a 0) R (Rf tfld150_0 _ _) (Yg a 0 1 (Vi s) R R (Rf tfld37_1 _ _) tcell3 b nn R (Yg q 0 1 (Vi e) R R (Rf tfld35_1 _ _) tcell3 g nn R (Xu 9 [(134, Vi (i64.wrap (2000 * e))), (135, Vi f.1), (136, Vi (i64.wrap ((i64.wrap (2000 * e)) + f.1))), (137, Vi h.1), (138, Vi (i64.wrap ((i64.wrap ((i64.wrap (2000 * e)) + f.1)) + h.1))), (139, Vi (i64.wrap ((i64.wrap ((i64.wrap ((i64.wrap (2000 * e)) + f.1)) + h.1)) - 1))), (140, Vi f.1), (141, Vi h.1), (142, Vi (i64.wrap (f.1 + h.1)))] (x_binop (Vi (i64.wrap (Int.tdiv (i64.wrap ((i64.wrap ((i64.wrap ((i64.wrap (2000 * e)) + f.1)) + h.1)) - 1)) (i64.wrap (f.1 + h.1))))) (Vi (i64.wrap ((i64.wrap ((i64.wrap ((i64.wrap (2000 * e)) + f.1)) + h.1)) - 1))) (Vi (i64.wrap (f.1 + h.1))) R R R R (vb_quo (Gl i)) ?_)))))
 have i := Gr i
 refine Xu 1 [(144, Vi (i64.wrap (s + (i64.wrap (Int.tdiv (i64.wrap ((i64.wrap ((i64.wrap ((i64.wrap (2000 * e)) + f.1)) + h.1)) - 1)) (i64.wrap (f.1 + h.1)))))))] (x_min (vs := [Vi (i64.wrap (s + (i64.wrap (Int.tdiv (i64.wrap ((i64.wrap ((i64.wrap ((i64.wrap (2000 * e)) + f.1)) + h.1)) - 1)) (i64.wrap (f.1 + h.1)))))), Vi 1000000000]) (Vi (if 1000000000 < (i64.wrap (s + (i64.wrap (Int.tdiv (i64.wrap ((i64.wrap ((i64.wrap ((i64.wrap (2000 * e)) + f.1)) + h.1)) - 1)) (i64.wrap (f.1 + h.1)))))) then 1000000000 else (i64.wrap (s + (i64.wrap (Int.tdiv (i64.wrap ((i64.wrap ((i64.wrap ((i64.wrap (2000 * e)) + f.1)) + h.1)) - 1)) (i64.wrap (f.1 + h.1)))))))) R R R (fun _ _ => R) (Xu 1 [(146, Vp a 0)] (Yf (Vp a 0) (Vp a 0) R (Rf tfld150_0 _ _) (Yf (Vp a 0) (Vp a 1) R (Rf tfld37_1 _ _) ?_))))
 obtain ⟨bb, aX, aG, au⟩ := store_box 1 (Vi (if 1000000000 < (i64.wrap (s + (i64.wrap (Int.tdiv (i64.wrap ((i64.wrap ((i64.wrap ((i64.wrap (2000 * e)) + f.1)) + h.1)) - 1)) (i64.wrap (f.1 + h.1)))))) then 1000000000 else (i64.wrap (s + (i64.wrap (Int.tdiv (i64.wrap ((i64.wrap ((i64.wrap ((i64.wrap (2000 * e)) + f.1)) + h.1)) - 1)) (i64.wrap (f.1 + h.1)))))))) #[Vi (if 1000000000 < (i64.wrap (o + (i64.wrap (Int.tdiv (i64.wrap (2000 * e)) (i64.wrap (k.2 + l.2)))))) then 1000000000 else (i64.wrap (o + (i64.wrap (Int.tdiv (i64.wrap (2000 * e)) (i64.wrap (k.2 + l.2))))))), Vi (if 1000000000 < (i64.wrap (s + (i64.wrap (Int.tdiv (i64.wrap ((i64.wrap ((i64.wrap ((i64.wrap (2000 * e)) + f.1)) + h.1)) - 1)) (i64.wrap (f.1 + h.1)))))) then 1000000000 else (i64.wrap (s + (i64.wrap (Int.tdiv (i64.wrap ((i64.wrap ((i64.wrap ((i64.wrap (2000 * e)) + f.1)) + h.1)) - 1)) (i64.wrap (f.1 + h.1))))))), Vi r, Vi m, .bool y] tcell3 b R R R
 refine Ys bb _ _ R aX (I1 ?_)
 have j := au.box j (c.apart 1 2 R R R _ mem1)
 have d := d.then au (fun D u => .inl (by simpa using u))
 have b := aG
 refine Xk (Cn [(0, Vp a 0), (11, Vp p 0)] (fun I => ?_))
 refine Cs (Xu 1 [(149, Vp a 0)] (Yl _ _ R (Ra 0 [Vi w, Vi (i64.wrap (m + n.2))] tagg37 j nn R) (Xu 1 [(151, Vp a 0)] (Yf (Vp a 0) (Vp a 2) R (Rf tfld150_1 _ _) ?_))))
 obtain ⟨bc, aY, aH, aJ⟩ := Sb 2 [Vi w, Vi (i64.wrap (m + n.2))] #[Vi (if 1000000000 < (i64.wrap (o + (i64.wrap (Int.tdiv (i64.wrap (2000 * e)) (i64.wrap (k.2 + l.2)))))) then 1000000000 else (i64.wrap (o + (i64.wrap (Int.tdiv (i64.wrap (2000 * e)) (i64.wrap (k.2 + l.2))))))), Vi (if 1000000000 < (i64.wrap (s + (i64.wrap (Int.tdiv (i64.wrap ((i64.wrap ((i64.wrap ((i64.wrap (2000 * e)) + f.1)) + h.1)) - 1)) (i64.wrap (f.1 + h.1)))))) then 1000000000 else (i64.wrap (s + (i64.wrap (Int.tdiv (i64.wrap ((i64.wrap ((i64.wrap ((i64.wrap (2000 * e)) + f.1)) + h.1)) - 1)) (i64.wrap (f.1 + h.1))))))), Vi w, Vi (i64.wrap (m + n.2)), .bool y] tagg37 b R R R
 refine Ys bc _ _ R aY (I1 ?_)
 have d := d.then aJ (fun D u => .inl (by simpa using u))
 have b := aH
 refine Xk (Cs (Xu 1 [(6, .bool true)] (Xk (Cr (Rr (Rv [.bool true] ⟨R, T0⟩ ?_))))))
 obtain rfl := Sj i
 exact ⟨R, d, b⟩
def runoff_state_brake (f : Int) (g : Int) (d : Int) (c : Int) (h : Bool) (e : Int) (a : Int) (b : Int) : Option (Int × Int) :=
some (if (i64.wrap ((if (i64.wrap (a - b)) > 0 then (i64.wrap (a - b)) else 0) * (if (i64.wrap (a - b)) > 0 then (i64.wrap (a - b)) else 0))) < d then (i64.wrap ((if (i64.wrap (a - b)) > 0 then (i64.wrap (a - b)) else 0) * (if (i64.wrap (a - b)) > 0 then (i64.wrap (a - b)) else 0))) else d, if (i64.wrap (c - e)) > (if (i64.wrap ((i64.wrap (a + b)) * (i64.wrap (a + b)))) < c then (i64.wrap ((i64.wrap (a + b)) * (i64.wrap (a + b)))) else c) then (i64.wrap (c - e)) else (if (i64.wrap ((i64.wrap (a + b)) * (i64.wrap (a + b)))) < c then (i64.wrap ((i64.wrap (a + b)) * (i64.wrap (a + b)))) else c))
theorem runoff_state_brake_w (c j k f d l e a b n i q) (C : MS i [[c], q]) (g : i.heap[c]? = some (.cells #[Vi j, Vi k, Vi f, Vi d, .bool l] 150 (0, 0))) (s : runoff_state_brake j k f d l e a b = some n) : CallVC Tryz.prog 52 [Vp c 0, Vi e, Vi a, Vi b] i fun z p => z = .tuple #[] ∧ Ev [c] i p ∧ p.heap[c]? = some (.cells #[Vi j, Vi k, Vi n.1, Vi n.2, .bool l] 150 (0, 0)) := by
 refine Cv hmx Tryz.func52 (by kernel_rfl) R (rs := []) R (by kernel_rfl) (args := [Vp c 0, Vi e, Vi a, Vi b]) R ?_
 have h : Ev [c] i i := Ev.refl _ _
 refine Cs (Xu 3 [(9, Vi a), (10, Vi b), (11, Vi (i64.wrap (a - b)))] (x_max (vs := [Vi 0, Vi (i64.wrap (a - b))]) (Vi (if (i64.wrap (a - b)) > 0 then (i64.wrap (a - b)) else 0)) R R R (fun _ _ => R) (Xu 1 [(8, Vi (if (i64.wrap (a - b)) > 0 then (i64.wrap (a - b)) else 0))] (Xk (Cs (Xu 3 [(13, Vp c 0), (14, Vp c 0), (15, Vp c 0)] (Yf (Vp c 0) (Vp c 2) R (Rf tfld150_1 _ _) (Yg c 2 2 (Vi f) R R (Rf tfld37_0 _ _) tcell3 g nn R ?_))))))))
 refine Xu 3 [(19, Vi (if (i64.wrap (a - b)) > 0 then (i64.wrap (a - b)) else 0)), (20, Vi (if (i64.wrap (a - b)) > 0 then (i64.wrap (a - b)) else 0)), (21, Vi (i64.wrap ((if (i64.wrap (a - b)) > 0 then (i64.wrap (a - b)) else 0) * (if (i64.wrap (a - b)) > 0 then (i64.wrap (a - b)) else 0))))] (x_min (vs := [Vi f, Vi (i64.wrap ((if (i64.wrap (a - b)) > 0 then (i64.wrap (a - b)) else 0) * (if (i64.wrap (a - b)) > 0 then (i64.wrap (a - b)) else 0)))]) (Vi (if (i64.wrap ((if (i64.wrap (a - b)) > 0 then (i64.wrap (a - b)) else 0) * (if (i64.wrap (a - b)) > 0 then (i64.wrap (a - b)) else 0))) < f then (i64.wrap ((if (i64.wrap (a - b)) > 0 then (i64.wrap (a - b)) else 0) * (if (i64.wrap (a - b)) > 0 then (i64.wrap (a - b)) else 0))) else f)) R R R (fun _ _ => R) (Xu 1 [(23, Vp c 0)] (Yf (Vp c 0) (Vp c 2) R (Rf tfld150_1 _ _) (Yf (Vp c 2) (Vp c 2) R (Rf tfld37_0 _ _) ?_))))
 obtain ⟨o, x, t, v⟩ := store_box 2 (Vi (if (i64.wrap ((if (i64.wrap (a - b)) > 0 then (i64.wrap (a - b)) else 0) * (if (i64.wrap (a - b)) > 0 then (i64.wrap (a - b)) else 0))) < f then (i64.wrap ((if (i64.wrap (a - b)) > 0 then (i64.wrap (a - b)) else 0) * (if (i64.wrap (a - b)) > 0 then (i64.wrap (a - b)) else 0))) else f)) #[Vi j, Vi k, Vi (if (i64.wrap ((if (i64.wrap (a - b)) > 0 then (i64.wrap (a - b)) else 0) * (if (i64.wrap (a - b)) > 0 then (i64.wrap (a - b)) else 0))) < f then (i64.wrap ((if (i64.wrap (a - b)) > 0 then (i64.wrap (a - b)) else 0) * (if (i64.wrap (a - b)) > 0 then (i64.wrap (a - b)) else 0))) else f), Vi d, .bool l] tcell3 g R R R
 refine Ys o _ _ R x (I1 ?_)
 have h := h.then v (fun r m => .inl (by simpa using m))
 have g := t
 refine Xk (Cn [(0, Vp c 0), (1, Vi e), (2, Vi a), (3, Vi b)] (fun B => ?_))
 refine Cd [] [(0, false), (1, false), (2, false), (3, false), (4, false), (5, false), (6, false), (7, false), (8, false), (9, false), (10, false), (11, false), (12, false), (13, false), (14, false), (15, false), (16, false), (17, false), (18, false), (19, false), (20, false), (21, false), (22, false), (23, false), (24, false), (25, true)] _ (by kernel_rfl) R ?_
 have g := (Ev.drew o).box g nn
 have h := h.ext (Ev.drew o)
 refine Xu 3 [(26, Vp c 0), (27, Vp c 0), (28, Vp c 0)] (Yf (Vp c 0) (Vp c 2) R (Rf tfld150_1 _ _) (Yg c 2 3 (Vi d) R R (Rf tfld37_1 _ _) tcell3 g nn R (Xu 7 [(32, Vi a), (33, Vi b), (34, Vi (i64.wrap (a + b))), (35, Vi a), (36, Vi b), (37, Vi (i64.wrap (a + b))), (38, Vi (i64.wrap ((i64.wrap (a + b)) * (i64.wrap (a + b)))))] (x_min (vs := [Vi d, Vi (i64.wrap ((i64.wrap (a + b)) * (i64.wrap (a + b))))]) (Vi (if (i64.wrap ((i64.wrap (a + b)) * (i64.wrap (a + b)))) < d then (i64.wrap ((i64.wrap (a + b)) * (i64.wrap (a + b)))) else d)) R R R (fun _ _ => R) (Xu 2 [(40, Vp c 0), (41, Vp c 0)] (Yf (Vp c 0) (Vp c 2) R (Rf tfld150_1 _ _) (Yg c 2 3 (Vi d) R R (Rf tfld37_1 _ _) tcell3 g nn R ?_)))))))
 refine Xu 2 [(45, Vi e), (46, Vi (i64.wrap (d - e)))] (x_max (vs := [Vi (if (i64.wrap ((i64.wrap (a + b)) * (i64.wrap (a + b)))) < d then (i64.wrap ((i64.wrap (a + b)) * (i64.wrap (a + b)))) else d), Vi (i64.wrap (d - e))]) (Vi (if (i64.wrap (d - e)) > (if (i64.wrap ((i64.wrap (a + b)) * (i64.wrap (a + b)))) < d then (i64.wrap ((i64.wrap (a + b)) * (i64.wrap (a + b)))) else d) then (i64.wrap (d - e)) else (if (i64.wrap ((i64.wrap (a + b)) * (i64.wrap (a + b)))) < d then (i64.wrap ((i64.wrap (a + b)) * (i64.wrap (a + b)))) else d))) R R R (fun _ _ => R) (Xu 1 [(48, Vp c 0)] (Yf (Vp c 0) (Vp c 2) R (Rf tfld150_1 _ _) (Yf (Vp c 2) (Vp c 3) R (Rf tfld37_1 _ _) ?_))))
 obtain ⟨A, y, u, w⟩ := store_box 3 (Vi (if (i64.wrap (d - e)) > (if (i64.wrap ((i64.wrap (a + b)) * (i64.wrap (a + b)))) < d then (i64.wrap ((i64.wrap (a + b)) * (i64.wrap (a + b)))) else d) then (i64.wrap (d - e)) else (if (i64.wrap ((i64.wrap (a + b)) * (i64.wrap (a + b)))) < d then (i64.wrap ((i64.wrap (a + b)) * (i64.wrap (a + b)))) else d))) #[Vi j, Vi k, Vi (if (i64.wrap ((if (i64.wrap (a - b)) > 0 then (i64.wrap (a - b)) else 0) * (if (i64.wrap (a - b)) > 0 then (i64.wrap (a - b)) else 0))) < f then (i64.wrap ((if (i64.wrap (a - b)) > 0 then (i64.wrap (a - b)) else 0) * (if (i64.wrap (a - b)) > 0 then (i64.wrap (a - b)) else 0))) else f), Vi (if (i64.wrap (d - e)) > (if (i64.wrap ((i64.wrap (a + b)) * (i64.wrap (a + b)))) < d then (i64.wrap ((i64.wrap (a + b)) * (i64.wrap (a + b)))) else d) then (i64.wrap (d - e)) else (if (i64.wrap ((i64.wrap (a + b)) * (i64.wrap (a + b)))) < d then (i64.wrap ((i64.wrap (a + b)) * (i64.wrap (a + b)))) else d)), .bool l] tcell3 g R R R
 refine Ys A _ _ R y (I1 ?_)
 have h := h.then w (fun r m => .inl (by simpa using m))
 have g := u
 refine Xe R (r_normal (Rv [] T0 ?_))
 obtain rfl := Sj s
 exact ⟨R, h, g⟩
def runoff_Pass_L25 (b : List (Int × Int × Int × Int × Int)) (c : (List ((Int × Int) × (Int × Int) × Bool × Bool))) : Option (Step (List ((Int × Int) × (Int × Int) × Bool × Bool)) (List ((Int × Int) × (Int × Int) × Bool × Bool))) :=
match c with
| a =>
(if (decide (((a).length : Int) ≤ ((b).length : Int))) = true then
(if a.length + ([((0, 0), (0, 0), false, true)] : List ((Int × Int) × (Int × Int) × Bool × Bool)).length ≤ 4294967296 then
some (.next (a ++ ([((0, 0), (0, 0), false, true)] : List ((Int × Int) × (Int × Int) × Bool × Bool))))
else none)
else
some (.done a))
def runoff_Pass_J29 (d : List ((Int × Int) × (Int × Int) × Bool × Bool)) (f : Int) (a : Bool × Int × Int × Int × Int × Bool) (b : Int) (c : Int) (e : Int) : Option (Step (Int × Int × Int × Int × Bool × (List ((Int × Int) × (Int × Int) × Bool × Bool)) × Int × Int) (List ((Int × Int) × (Int × Int) × Bool × Bool))) :=
(if d.length + ([((a.2.1, a.2.2.1), (b, c), a.2.2.2.2.2, false)] : List ((Int × Int) × (Int × Int) × Bool × Bool)).length ≤ 4294967296 then
some (.next (a.2.1, a.2.2.1, b, c, a.2.2.2.2.2, (d ++ ([((a.2.1, a.2.2.1), (b, c), a.2.2.2.2.2, false)] : List ((Int × Int) × (Int × Int) × Bool × Bool))), e, i64.wrap (f + 1)))
else none)
def runoff_Pass_L13 (f : List (Int × Int × Int × Int × Int)) (q : List (Int × Int)) (r : Int) (s : List Int) (t : Int × Int × Int × Int × Bool × (List ((Int × Int) × (Int × Int) × Bool × Bool)) × Int × Int) : Option (Step (Int × Int × Int × Int × Bool × (List ((Int × Int) × (Int × Int) × Bool × Bool)) × Int × Int) (List ((Int × Int) × (Int × Int) × Bool × Bool))) :=
match t with
| (l, m, n, o, p, d, e, c) =>
(if (decide (c < ((f).length : Int))) = true then
((idx f c).bind fun b =>
((idx q c).bind fun g =>
((runoff_state_roll l m n o p b.1 b.2.1 b.2.2.1 b.2.2.2.1 b.2.2.2.2 g.1 g.2).bind fun a =>
(if (!a.1) = true then
((loop (runoff_Pass_L25 f) d).bind fun j => match j with
| k => some (.done k))
else
(if (decide (b.2.2.2.2 > 0)) = true then
((idx s e).bind fun h =>
(if (decide (h ≥ 0)) = true then
((runoff_state_brake a.2.1 a.2.2.1 a.2.2.2.1 a.2.2.2.2.1 a.2.2.2.2.2 b.2.2.2.2 h r).bind fun i =>
runoff_Pass_J29 d c a i.1 i.2 (i64.wrap (e + 1)))
else
runoff_Pass_J29 d c a a.2.2.2.1 a.2.2.2.2.1 (i64.wrap (e + 1))))
else
runoff_Pass_J29 d c a a.2.2.2.1 a.2.2.2.2.1 e)))))
else
some (.done d))
def runoff_Pass (c : List (Int × Int × Int × Int × Int)) (a : Int) (b : Int) (d : List (Int × Int)) (e : Int) (f : List Int) : Option ((List ((Int × Int) × (Int × Int) × Bool × Bool)) × Int) :=
((runoff_check c a b d e f).bind fun g =>
(if (g != 0) = true then
some ([], g)
else
((loop (runoff_Pass_L13 c d e f) (0, 0, i64.wrap (a * a), i64.wrap (b * b), false, ([((0, 0), (i64.wrap (a * a), i64.wrap (b * b)), false, false)] : List ((Int × Int) × (Int × Int) × Bool × Bool)), 0, 0)).bind fun h => match h with
| i => some (i, 0))))
theorem runoff_Pass_w (w x n k m ac ae X ag ad af Y aZ K d) (f : MS K [d]) (j : SlR (eProd eI (eIt4)) K (fl [d]) w x n) (p : SlR (eProd eI eI) K (fl [d]) ac ae X) (q : SlR eI K (fl [d]) ad af Y) (h : runoff_Pass n k m X ag Y = some aZ) : CallVC Tryz.prog 27 [Vl w n x, .agg #[Vi k, Vi m, Vl ac X ae, Vi ag, Vl ad Y af]] K fun a0 D => ∃ ay bq, a0 = .tuple #[Vl ay aZ.1 bq, Vi aZ.2] ∧ Ev [] K D ∧ MS D [Bk ay, d] ∧ FR K.heap.size [Bk ay] ∧ OwnS (eProd (eProd eI eI) (eProd (eProd eI eI) (eProd eBool eBool))) 123 D (fl [Bk ay, d]) ay bq aZ.1 := by
 refine Cv hmx Tryz.func27 (by kernel_rfl) R (rs := [.tmp 4, .tmp 5]) R (by kernel_rfl) (args := [Vl w n x, .agg #[Vi k, Vi m, Vl ac X ae, Vi ag, Vl ad Y af]]) R ?_
 have o : Ev [] K K := Ev.refl _ _
 have t : FR K.heap.size [] := FR.nil _
 refine Cs (Yb _ R (fun b bx bg r a8 co => ?_))
 replace r : bx.heap[b]? = some (.cells #[Vi k, Vi m, Vl ac X ae, Vi ag, Vl ad Y af] 40 (0, 0)) := r
 refine I1 ?_
 have g := Stp.box (ls := [d]) a8 bg
 have j := j.step g
 have p := p.step g
 have q := q.step g
 have f := f.box a8 bg r
 have t := t.box o.size bg
 have o := o.ext a8
 refine Xu 2 [(4, Z0), (5, Vi 0)] (Xk (Cq (Cs (Xu 1 [(13, Vl w n x)] (Yl _ _ R (Ra 0 [Vi k, Vi m, Vl ac X ae, Vi ag, Vl ad Y af] tagg40 r nn R) ?_)))))
 obtain ⟨am, ai, h⟩ := Bs h
 have aF := runoff_check_w w x n k m ac ae X ag ad af Y _ bx (fl [[b], d]) (MS.fold (P := []) f) (j.sub fl1) (p.sub fl1) (q.sub fl1) ai
 refine Xc 50 #[] #[] _ _ R R R R aF ?_
 rintro a0 ct ⟨rfl, aX⟩
 refine I1 ?_
 have g := Stp.ext (ls := [[b], d]) aX
 have j := j.step g
 have p := p.step g
 have q := q.step g
 have r := aX.box r nn
 have f := f.ev aX
 have o := o.ext aX
 refine Xu 1 [(6, Vi am)] (Xk (Cs (Xu 2 [(16, Vi am), (17, .bool (am != 0))] (Xk (Ci (am != 0) R h (fun h => ?_) (fun h => ?_))))))
 · refine Cs (Xu 3 [(18, Vi am), (4, Z0), (5, Vi am)] (Xk (Cr (Kr (Rr (Rv [Z0, Vi am] ⟨R, R, T0⟩ ?_))))))
   obtain rfl := Sj h
   have aK := f.pick [none, some 1] [Bk none, d] R
   have aJ := t.pick [none] [Bk none] R
   exact ⟨none, 0, R, o, aK, aJ, OwnS.nil _ _ _ _⟩
 refine Ck (Kt (Cs (Yf (Vp b 0) (Vp b 0) R (Rf tfld40_0 _ _) (Yg b 0 0 (Vi k) R R (Rf tfld37_0 _ _) tcell3 r nn R (Yf (Vp b 0) (Vp b 0) R (Rf tfld40_0 _ _) (Yg b 0 0 (Vi k) R R (Rf tfld37_0 _ _) tcell3 r nn R (Xu 1 [(25, Vi (i64.wrap (k * k)))] ?_)))))))
 refine Yf (Vp b 0) (Vp b 0) R (Rf tfld40_0 _ _) (Yg b 0 1 (Vi m) R R (Rf tfld37_1 _ _) tcell3 r nn R (Yf (Vp b 0) (Vp b 0) R (Rf tfld40_0 _ _) (Yg b 0 1 (Vi m) R R (Rf tfld37_1 _ _) tcell3 r nn R (Xu 1 [(32, Vi (i64.wrap (m * m)))] (Xd (vs := [(0, Vi (i64.wrap (k * k))), (1, Vi (i64.wrap (m * m)))]) (.agg #[Vi (i64.wrap (k * k)), Vi (i64.wrap (m * m))]) R R R (fun _ _ => by kernel_rfl) ?_)))))
 refine Xd (vs := [(1, .agg #[Vi (i64.wrap (k * k)), Vi (i64.wrap (m * m))])]) (.agg #[Vi 0, Vi 0, Vi (i64.wrap (k * k)), Vi (i64.wrap (m * m)), .bool false]) R R R (fun _ _ => by kernel_rfl) ?_
 refine Yb _ R (fun a ak bh v aY cp => ?_)
 replace v : ak.heap[a]? = some (.cells #[Vi 0, Vi 0, Vi (i64.wrap (k * k)), Vi (i64.wrap (m * m)), .bool false] 150 (0, 0)) := v
 refine I1 ?_
 have g := Stp.box (ls := [[b], d]) aY bh
 have j := j.step g
 have p := p.step g
 have q := q.step g
 have r := aY.box r nn
 have f := f.box aY bh v
 have t := t.box o.size bh
 have o := o.ext aY
 refine Xu 1 [(7, Vp a 0)] (Xk (Cn [(0, Vl w n x), (3, Vp b 0), (7, Vp a 0)] (fun S => ?_)))
 refine Cq (Cd [] [(0, false), (1, false), (2, false), (3, false), (4, false), (5, false), (6, false), (7, false), (8, false), (9, true), (10, false)] _ (by kernel_rfl) R ?_)
 have g := Stp.ext (ls := [[a], [b], d]) (Ev.drew ak)
 have j := j.step g
 have p := p.step g
 have q := q.step g
 have r := (Ev.drew ak).box r nn
 have v := (Ev.drew ak).box v nn
 have f := f.ev (Ev.drew ak)
 have o := o.ext (Ev.drew ak)
 refine Xu 2 [(36, Vp a 0), (37, Vp a 0)] (Yf (Vp a 0) (Vp a 0) R (Rf tfld150_0 _ _) (Yl _ _ R (Ra 0 [Vi 0, Vi 0] tagg37 v nn R) (Xu 2 [(40, Vp a 0), (41, Vp a 0)] (Yf (Vp a 0) (Vp a 2) R (Rf tfld150_1 _ _) (Yl _ _ R (Ra 2 [Vi (i64.wrap (k * k)), Vi (i64.wrap (m * m))] tagg37 v nn R) (Xd (vs := [(0, .agg #[Vi 0, Vi 0]), (1, .agg #[Vi (i64.wrap (k * k)), Vi (i64.wrap (m * m))])]) (.agg #[Vi 0, Vi 0, Vi (i64.wrap (k * k)), Vi (i64.wrap (m * m)), .bool false, .bool false]) R R R (fun _ _ => by kernel_rfl) ?_))))))
 refine Xb (vs := [(0, .agg #[Vi 0, Vi 0, Vi (i64.wrap (k * k)), Vi (i64.wrap (m * m)), .bool false, .bool false])]) #[Vi 0, Vi 0, Vi (i64.wrap (k * k)), Vi (i64.wrap (m * m)), .bool false, .bool false] 123 R R R (by kernel_rfl) (fun bD bu bS bt aG ck => ?_)
 refine I1 ?_
 obtain ⟨ab, a3⟩ : ∃ bA, bA = some (⟨bD, 0, none⟩ : Addr) := ⟨_, R⟩
 have b6 : ∀ d, OwnS (eProd (eProd eI eI) (eProd (eProd eI eI) (eProd eBool eBool))) 123 bu d ab 1 ([((0, 0), (i64.wrap (k * k), i64.wrap (m * m)), false, false)] : List ((Int × Int) × (Int × Int) × Bool × Bool)) := fun d => a3 ▸ own_of_box bt (by decide) R R (cells_at (cs := [Vi 0, Vi 0, Vi (i64.wrap (k * k)), Vi (i64.wrap (m * m)), .bool false, .bool false]) (CellsOf.cons (c := [Vi 0, Vi 0, Vi (i64.wrap (k * k)), Vi (i64.wrap (m * m)), .bool false, .bool false]) ⟨[Vi 0, Vi 0], [Vi (i64.wrap (k * k)), Vi (i64.wrap (m * m)), .bool false, .bool false], R, ⟨[Vi 0], [Vi 0], R, R, R⟩, ⟨[Vi (i64.wrap (k * k)), Vi (i64.wrap (m * m))], [.bool false, .bool false], R, ⟨[Vi (i64.wrap (k * k))], [Vi (i64.wrap (m * m))], R, R, R⟩, ⟨[.bool false], [.bool false], R, R, R⟩⟩⟩ CellsOf.nil))
 have bc : ∀ u ∈ Bk ab, (ak).drew.heap.size ≤ u ∧ u < bu.heap.size := by subst a3; intro u A; simp only [Bk, blk, List.mem_singleton] at A; subst A; exact ⟨Nat.le_of_eq bS.symm, lt_of_heap bt⟩
 have g := Stp.push (ls := [[a], [b], d]) (l := Bk ab) aG (fun _ h => by cases h) (fun u A => (bc u A).1)
 have j := j.step g
 have p := p.step g
 have q := q.step g
 have r := aG.box r nn
 have v := aG.box v nn
 have f := f.push aG bc
 have t := t.push (fun u A => Nat.le_trans o.size (bc u A).1)
 have o := o.ext aG
 have s := b6 (fl [Bk ab, [a], [b], d])
 rw [← a3]
 refine Xu 1 [(8, Vl ab (([((0, 0), (i64.wrap (k * k), i64.wrap (m * m)), false, false)] : List ((Int × Int) × (Int × Int) × Bool × Bool))) 1)] (Xk (Cs (Xu 1 [(9, Vi 0)] (Xk (Cq (Cs (Xu 1 [(46, Vl w n x)] (Xn (vs := [Vl w n x]) (Vi ((n).length : Int)) R R R (Rl tsl32 _ _ _ _ _) (Xu 1 [(48, Vi 0)] ?_)))))))))
 refine Xk (Cn [(0, Vl w n x), (3, Vp b 0), (7, Vp a 0), (8, Vl ab (([((0, 0), (i64.wrap (k * k), i64.wrap (m * m)), false, false)] : List ((Int × Int) × (Int × Int) × Bool × Bool))) 1), (9, Vi 0), (46, Vl w n x), (47, Vi ((n).length : Int)), (48, Vi 0)] (fun S => ?_))
 refine Cb ?_
 have U := f.pk [2, 1, 0, 3] [[b], [a], Bk ab, d] R
 have C := Pk (ls := [Bk ab, [a], [b], d]) [2, 1, 0, 3] [[b], [a], Bk ab, d] R
 have j := j.sub C
 have p := p.sub C
 have q := q.sub C
 have s := s.sub C
 have f := U
 have t := t.pk [2, 1, 0] [[b], [a], Bk ab] R
 obtain ⟨bE, a5, bs⟩ := Bs h
 obtain ⟨aQ, a5⟩ := Lo a5
 refine Cl (Lr hmx (σ := Nat × Int × Int × Int × Int × Bool × (List ((Int × Int) × (Int × Int) × Bool × Bool)) × Int × Int × Option Addr × Nat) (fun Q => match Q with | (_, az, aA, aB, aC, aD, F, N, J, e, L) => [(0, Vl w n x), (3, Vp b 0), (7, Vp a 0), (8, Vl e F L), (9, Vi N), (46, Vl w n x), (47, Vi ((n).length : Int)), (48, Vi J)]) (fun Q D => match Q with | (bk, az, aA, aB, aC, aD, F, N, J, e, L) => loopN (runoff_Pass_L13 n X ag Y) bk (az, aA, aB, aC, aD, F, N, J) = some bE ∧ Ev [] K D ∧ MS D [[b], [a], Bk e, d] ∧ FR K.heap.size [[b], [a], Bk e] ∧ SlR (eProd eI (eIt4)) D (fl [[b], [a], Bk e, d]) w x n ∧ SlR (eProd eI eI) D (fl [[b], [a], Bk e, d]) ac ae X ∧ SlR eI D (fl [[b], [a], Bk e, d]) ad af Y ∧ D.heap[b]? = some (.cells #[Vi k, Vi m, Vl ac X ae, Vi ag, Vl ad Y af] 40 (0, 0)) ∧ D.heap[a]? = some (.cells #[Vi az, Vi aA, Vi aB, Vi aC, .bool aD] 150 (0, 0)) ∧ OwnS (eProd (eProd eI eI) (eProd (eProd eI eI) (eProd eBool eBool))) 123 D (fl [[b], [a], Bk e, d]) e L F) (fun Q => Q.1) (aQ, 0, 0, i64.wrap (k * k), i64.wrap (m * m), false, ([((0, 0), (i64.wrap (k * k), i64.wrap (m * m)), false, false)] : List ((Int × Int) × (Int × Int) × Bool × Bool)), 0, 0, ab, 1) ⟨R, R, R, R, R, R, R, R, T0⟩ ⟨a5, o, f, t, j, p, q, r, v, s⟩ ?_)
 rintro ⟨aQ, az, aA, aB, aC, aD, F, N, J, e, L⟩ S cu ⟨au, o, f, t, j, p, q, r, v, s⟩
 rcases aQ with _ | aQ
 · exact (Lz au).elim
 obtain ⟨cc, h, au⟩ := Bs au
 refine Cs (Xu 1 [(49, Bd (J < ((n).length : Int)))] (Xk (Cn [(0, Vl w n x), (3, Vp b 0), (7, Vp a 0), (8, Vl e F L), (9, Vi N), (46, Vl w n x), (47, Vi ((n).length : Int)), (48, Vi J), (49, Bd (J < ((n).length : Int)))] (fun S => ?_))))
 refine Cq (Ci (decide (J < ((n).length : Int))) R h (fun h => ?_) (fun h => ?_))
 · refine Ck (Kt (Cq (Cb (Cs (Xu 1 [(50, Vi J)] ?_)))))
   obtain ⟨E, b9, h⟩ := Bs h
   obtain ⟨bB, cf, bY, bK, aE⟩ := Ri (Mo := []) tsl32 j b9
   obtain ⟨_, _, rfl, rfl, ⟨_, _, rfl, rfl, ⟨_, _, rfl, rfl, ⟨_, _, rfl, rfl, rfl⟩⟩⟩⟩ := aE
   refine Yi _ _ _ R bY (Yl (.pointer (some bB)) (.agg #[Vi E.1, Vi E.2.1, Vi E.2.2.1, Vi E.2.2.2.1, Vi E.2.2.2.2]) R (reads_agg tagg35 bK (fun _ h => by cases h)) ?_)
   refine Xa (z := .agg #[Vi 0, Vi 0, Vi 0, Vi 0, Vi 0]) R R (by kernel_rfl) (fun y cd bf aa ao cl => ?_)
   replace aa : cd.heap[y]? = some (.cells #[Vi 0, Vi 0, Vi 0, Vi 0, Vi 0] 35 (0, 0)) := aa
   refine I1 ?_
   have g := Stp.box (ls := [[b], [a], Bk e, d]) ao bf
   have j := j.step g
   have r := ao.box r nn
   have p := p.step g
   have q := q.step g
   have v := ao.box v nn
   have s := s.step g ao nn2
   have f := f.box ao bf aa
   have t := t.box o.size bf
   have o := o.ext ao
   refine Xu 1 [(10, Vi J)] ?_
   obtain ⟨ah, bZ, bH, ap⟩ := Sa [Vi E.1, Vi E.2.1, Vi E.2.2.1, Vi E.2.2.2.1, Vi E.2.2.2.2] tagg35 aa R R R
   refine Ys ah _ _ R bZ (I1 ?_)
   have g := Stp.ev' (ls := [[y], [b], [a], Bk e, d]) ap (Mf 0 R)
   have j := j.step g
   have r := ap.box r (f.apart 1 0 R R R _ mem1)
   have p := p.step g
   have q := q.step g
   have v := ap.box v (f.apart 2 0 R R R _ mem1)
   have s := s.step g ap (f.apart 3 0 R R R)
   have f := f.ev ap
   have o := o.then ap (fun u A => .inr (t.at 0 R u A))
   have aa := bH
   refine Xk (Cq (Cq (Cd [] [(0, false), (1, false), (2, false), (3, false), (4, false), (5, false), (6, false), (7, true), (8, false)] _ (by kernel_rfl) R ?_)))
   have g := Stp.ext (ls := [[y], [b], [a], Bk e, d]) (Ev.drew ah)
   have j := j.step g
   have r := (Ev.drew ah).box r nn
   have p := p.step g
   have q := q.step g
   have v := (Ev.drew ah).box v nn
   have s := s.step g (Ev.drew ah) nn2
   have aa := (Ev.drew ah).box aa nn
   have f := f.ev (Ev.drew ah)
   have o := o.ext (Ev.drew ah)
   refine Xu 1 [(53, Vp a 0)] (Yl _ _ R (Ra 0 [Vi E.1, Vi E.2.1, Vi E.2.2.1, Vi E.2.2.2.1, Vi E.2.2.2.2] tagg35 aa nn R) (Yg b 0 2 (Vl ac X ae) R R (Rf tfld40_1 _ _) tcell38 r nn R (Xu 1 [(57, Vi J)] ?_)))
   obtain ⟨a1, ca, h⟩ := Bs h
   obtain ⟨bC, cg, b0, bL, aE⟩ := Ri (Mo := []) tsl38 p ca
   obtain ⟨_, _, rfl, rfl, rfl⟩ := aE
   refine Yi _ _ _ R b0 (Yl (.pointer (some bC)) (.agg #[Vi a1.1, Vi a1.2]) R (reads_agg tagg37 bL (fun _ h => by cases h)) ?_)
   obtain ⟨i, ai, h⟩ := Bs h
   have U : MS (ah).drew ([[a]] ++ [[y], [b], Bk e, d]) := f.pk [2, 0, 1, 3, 4] _ R
   have aF := runoff_state_roll_w a az aA aB aC aD E.1 E.2.1 E.2.2.1 E.2.2.2.1 E.2.2.2.2 a1.1 a1.2 _ (ah).drew (fl [[y], [b], Bk e, d]) (U.fold (P := [[a]])) v ai
   refine Xc 51 #[] #[] _ _ R R R R aF ?_
   rintro a0 bl ⟨rfl, aq, bO⟩
   refine I1 ?_
   have av : MS (ah).drew ([[a]] ++ [[y], [b], Bk e, d]) := f.pk [2, 0, 1, 3, 4] _ R
   have aN : ∀ Z ∈ fl ([[a]] ++ [[y], [b], Bk e, d]), Z ∈ fl [[y], [b], [a], Bk e, d] := Pk [2, 0, 1, 3, 4] _ R
   have bj := Stp.call (LS := [[y], [b], [a], Bk e, d]) (res := []) (par := [[a]]) (R := [[y], [b], Bk e, d]) aq (fun u A => aN u (fl_left' (P := [[a]]) u A)) (FR.nil _) (NP.init _ _) (fun Z ai => aN Z (fl_right' (P := [[a]]) Z ai))
   have bi : ∀ Z ∈ fl [[y], [b], [a], Bk e, d], Z ∈ fl ([] ++ ([[a]] ++ [[y], [b], Bk e, d])) := Pk [1, 2, 0, 3, 4] _ R
   have g := bj.res bi
   have j := j.step g
   have r := aq.box r ((MS.outs (P := [[a]]) av 1 R) _ mem1)
   have p := p.step g
   have q := q.step g
   have s := s.step g aq (MS.outs (P := [[a]]) av 2 R)
   have aa := aq.box aa ((MS.outs (P := [[a]]) av 0 R) _ mem1)
   have f := f.ev aq
   have a4 : ∀ u ∈ fl [[a]], K.heap.size ≤ u := FR.mem (ls := [[a]]) (t.pk [2] _ R)
   have o := o.then aq (fun u A => .inr (a4 u A))
   have v := bO
   refine Xu 1 [(61, .bool (!i.1))] (Xk (Cn [(0, Vl w n x), (3, Vp b 0), (7, Vp a 0), (8, Vl e F L), (9, Vi N), (11, Vp y 0), (46, Vl w n x), (47, Vi ((n).length : Int)), (48, Vi J), (61, .bool (!i.1))] (fun S => ?_)))
   refine Ci (!i.1) R h (fun h => ?_) (fun h => ?_)
   · refine Cq (Cb ?_)
     have U := f.pk [3, 4] [Bk e, d] R
     have C := Pk (ls := [[y], [b], [a], Bk e, d]) [3, 4] [Bk e, d] R
     have j := j.sub C
     have s := s.sub C
     have f := U
     have t := t.pk [3] [Bk e] R
     obtain ⟨bF, a6, bG⟩ := Bs h
     obtain ⟨aS, a6⟩ := Lo a6
     refine Cl (Lr hmx (σ := Nat × (List ((Int × Int) × (Int × Int) × Bool × Bool)) × Option Addr × Nat) (fun Q => match Q with | (_, G, B, O) => [(0, Vl w n x), (8, Vl B G O)]) (fun Q D => match Q with | (bk, G, B, O) => loopN (runoff_Pass_L25 n) bk G = some bF ∧ Ev [] K D ∧ MS D [Bk B, d] ∧ FR K.heap.size [Bk B] ∧ SlR (eProd eI (eIt4)) D (fl [Bk B, d]) w x n ∧ OwnS (eProd (eProd eI eI) (eProd (eProd eI eI) (eProd eBool eBool))) 123 D (fl [Bk B, d]) B O G) (fun Q => Q.1) (aS, F, e, L) ⟨R, R, T0⟩ ⟨a6, o, f, t, j, s⟩ ?_)
     rintro ⟨aS, G, B, O⟩ S cv ⟨aL, o, f, t, j, s⟩
     rcases aS with _ | aS
     · exact (Lz aL).elim
     obtain ⟨cq, h, aL⟩ := Bs aL
     refine Cq (Cs (Xu 1 [(62, Vl B G O)] (Xn (vs := [Vl B G O]) (Vi ((G).length : Int)) R R R (Rl tsl119 _ _ _ _ _) (Xu 1 [(64, Vl w n x)] (Xn (vs := [Vl w n x]) (Vi ((n).length : Int)) R R R (Rl tsl32 _ _ _ _ _) (Xu 1 [(66, Bd (((G).length : Int) ≤ ((n).length : Int)))] (Xk (Cn [(0, Vl w n x), (8, Vl B G O), (66, Bd (((G).length : Int) ≤ ((n).length : Int)))] (fun S => ?_)))))))))
     refine Ci (decide (((G).length : Int) ≤ ((n).length : Int))) R h (fun h => ?_) (fun h => ?_)
     · refine Ck (Kt (Cb (Cp (Xu 1 [(67, Vl B G O)] (Xd (vs := [(3, .bool true)]) (.agg #[Vi 0, Vi 0, Vi 0, Vi 0, .bool false, .bool true]) R R R (fun _ _ => by kernel_rfl) ?_)))))
       refine Xb (vs := [(0, .agg #[Vi 0, Vi 0, Vi 0, Vi 0, .bool false, .bool true])]) #[Vi 0, Vi 0, Vi 0, Vi 0, .bool false, .bool true] 123 R R R (by kernel_rfl) (fun bo bv bU bI aU cm => ?_)
       refine I1 ?_
       have bb := f
       have g := Stp.ext (ls := [Bk B, d]) aU
       have j := j.step g
       have s := s.step g aU nn2
       have f := f.ev aU
       have o := o.ext aU
       have b4 : SlR (eProd (eProd eI eI) (eProd (eProd eI eI) (eProd eBool eBool))) bv (fl [Bk B, d]) (Ad bo 0) 1 ([((0, 0), (0, 0), false, true)] : List ((Int × Int) × (Int × Int) × Bool × Bool)) := ro_of_box bb bU bI R R (cells_at (cs := [Vi 0, Vi 0, Vi 0, Vi 0, .bool false, .bool true]) (CellsOf.cons (c := [Vi 0, Vi 0, Vi 0, Vi 0, .bool false, .bool true]) ⟨[Vi 0, Vi 0], [Vi 0, Vi 0, .bool false, .bool true], R, ⟨[Vi 0], [Vi 0], R, R, R⟩, ⟨[Vi 0, Vi 0], [.bool false, .bool true], R, ⟨[Vi 0], [Vi 0], R, R, R⟩, ⟨[.bool false], [.bool true], R, R, R⟩⟩⟩ CellsOf.nil))
       have ba := Gl h
       have h := Gr h
       obtain ⟨an, br, bm, b1, a7, bd, ci, b7⟩ := own_appendN tel119 119 s (Mf 0 R) b4 ba
       refine x_builtin (vs := [Vl B G O, Vl (Ad bo 0) (([((0, 0), (0, 0), false, true)] : List ((Int × Int) × (Int × Int) × Bool × Bool))) 1]) _ bm R R R R (run_value _ _ _ _ b1) (I1 ?_)
       have g : Stp (fl [Bk B, d]) bv (fl [Bk an, d]) bm := Stp.upd 0 a7 R (fun u A => (bd u A).1)
       have j := j.step g
       replace f : MS bm [Bk an, d] := f.upd 0 a7 R bd
       have a9 : FR K.heap.size [Bk an] := t.upd 0 R o.size (fun u A => (bd u A).1)
       have o := o.then a7 (fun u A => .inr (t.at 0 R u A))
       have t := a9
       have s := b7 (fl [Bk an, d]) g.new
       refine Xu 1 [(8, Vl an ((G ++ ([((0, 0), (0, 0), false, true)] : List ((Int × Int) × (Int × Int) × Bool × Bool)))) br)] (Xe R (Kl ?_))
       obtain rfl := Sj h
       exact Kt ⟨(aS, (G ++ ([((0, 0), (0, 0), false, true)] : List ((Int × Int) × (Int × Int) × Bool × Bool))), an, br), ⟨R, R, T0⟩, ⟨aL, o, f, t, j, s⟩, Ns _⟩
     refine Ce (Ke ?_)
     obtain rfl := Sj h
     have aO := Sj aL
     subst aO
     have h := bG
     refine Ke (Ki (Kt (Cn [(8, Vl B G O)] (fun S => ?_))))
     refine Ce (Ke (k_block_out R (Ke ?_)))
     obtain rfl := Sj h
     have aO := Sj au
     subst aO
     have h := bs
     refine Ke (Ki (Kt (Cn [(8, Vl B G O)] (fun S => ?_))))
     refine Cs (Xu 3 [(107, Vl B G O), (4, Vl B G O), (5, Vi 0)] (Xk (Cr (Rr (Rv [Vl B G O, Vi 0] ⟨R, R, T0⟩ ?_)))))
     obtain rfl := Sj h
     have aK := f.pk [0, 1] [Bk B, d] R
     have C := Pk (ls := [Bk B, d]) [0, 1] [Bk B, d] R
     have aJ := t.pk [0] [Bk B] R
     exact ⟨B, O, R, o, aK, aJ, s.sub C⟩
   refine Ck (Kt (c_join (σ := Int × Int × Int) (fun Q => match Q with | (H, I, aw) => [(0, Vl w n x), (3, Vp b 0), (7, Vp a 0), (8, Vl e F L), (9, Vi aw), (46, Vl w n x), (47, Vi ((n).length : Int)), (48, Vi J)]) (fun Q D => match Q with | (H, I, aw) => runoff_Pass_J29 F J i H I aw = some cc ∧ Ev [] K D ∧ MS D [[b], [a], Bk e, d] ∧ FR K.heap.size [[b], [a], Bk e] ∧ SlR (eProd eI (eIt4)) D (fl [[b], [a], Bk e, d]) w x n ∧ SlR (eProd eI eI) D (fl [[b], [a], Bk e, d]) ac ae X ∧ SlR eI D (fl [[b], [a], Bk e, d]) ad af Y ∧ D.heap[b]? = some (.cells #[Vi k, Vi m, Vl ac X ae, Vi ag, Vl ad Y af] 40 (0, 0)) ∧ D.heap[a]? = some (.cells #[Vi i.2.1, Vi i.2.2.1, Vi H, Vi I, .bool i.2.2.2.2.2] 150 (0, 0)) ∧ OwnS (eProd (eProd eI eI) (eProd (eProd eI eI) (eProd eBool eBool))) 123 D (fl [[b], [a], Bk e, d]) e L F) ?_ ?_))
   · refine Cs (Yg y 0 4 (Vi E.2.2.2.2) R R (Rf tfld35_4 _ _) tcell3 aa nn R (Xu 1 [(73, Bd (E.2.2.2.2 > 0))] (Xk (Ci (decide (E.2.2.2.2 > 0)) R h (fun h => ?_) (fun h => ?_)))))
     · refine Cq (Cs (Yg b 0 4 (Vl ad Y af) R R (Rf tfld40_3 _ _) tcell22 r nn R (Xu 1 [(76, Vi N)] ?_)))
       obtain ⟨al, cb, h⟩ := Bs h
       obtain ⟨ce, ch, b2, bN, aE⟩ := Ri (Mo := []) tsl22 q cb
       obtain rfl := aE
       refine Yi _ _ _ R b2 (Yl _ (Vi al) R (Rc tcell3 bN (fun _ h => by cases h)) ?_)
       refine Xu 1 [(12, Vi al)] (Xk (Cs (Xu 2 [(79, Vi al), (80, Bd (al ≥ 0))] (Xk (Ci (decide (al ≥ 0)) R h (fun h => ?_) (fun h => ?_))))))
       · refine Cp (Xu 1 [(81, Vp a 0)] (Yg y 0 4 (Vi E.2.2.2.2) R R (Rf tfld35_4 _ _) tcell3 aa nn R (Xu 1 [(84, Vi al)] (Yg b 0 3 (Vi ag) R R (Rf tfld40_2 _ _) tcell3 r nn R ?_))))
         obtain ⟨bz, ai, h⟩ := Bs h
         have U : MS bl ([[a]] ++ [[y], [b], Bk e, d]) := f.pk [2, 0, 1, 3, 4] _ R
         have aF := runoff_state_brake_w a i.2.1 i.2.2.1 i.2.2.2.1 i.2.2.2.2.1 i.2.2.2.2.2 E.2.2.2.2 al ag _ bl (fl [[y], [b], Bk e, d]) (U.fold (P := [[a]])) v ai
         refine Xc 52 #[] #[] _ _ R R R R aF ?_
         rintro a0 cr ⟨rfl, aH, bQ⟩
         refine I1 ?_
         have av : MS bl ([[a]] ++ [[y], [b], Bk e, d]) := f.pk [2, 0, 1, 3, 4] _ R
         have aN : ∀ Z ∈ fl ([[a]] ++ [[y], [b], Bk e, d]), Z ∈ fl [[y], [b], [a], Bk e, d] := Pk [2, 0, 1, 3, 4] _ R
         have bj := Stp.call (LS := [[y], [b], [a], Bk e, d]) (res := []) (par := [[a]]) (R := [[y], [b], Bk e, d]) aH (fun u A => aN u (fl_left' (P := [[a]]) u A)) (FR.nil _) (NP.init _ _) (fun Z ai => aN Z (fl_right' (P := [[a]]) Z ai))
         have bi : ∀ Z ∈ fl [[y], [b], [a], Bk e, d], Z ∈ fl ([] ++ ([[a]] ++ [[y], [b], Bk e, d])) := Pk [1, 2, 0, 3, 4] _ R
         have g := bj.res bi
         have j := j.step g
         have r := aH.box r ((MS.outs (P := [[a]]) av 1 R) _ mem1)
         have p := p.step g
         have q := q.step g
         have s := s.step g aH (MS.outs (P := [[a]]) av 2 R)
         have f := f.ev aH
         have a4 : ∀ u ∈ fl [[a]], K.heap.size ≤ u := FR.mem (ls := [[a]]) (t.pk [2] _ R)
         have o := o.then aH (fun u A => .inr (a4 u A))
         have v := bQ
         refine Xk (Cn [(0, Vl w n x), (3, Vp b 0), (7, Vp a 0), (8, Vl e F L), (9, Vi N), (46, Vl w n x), (47, Vi ((n).length : Int)), (48, Vi J)] (fun S => ?_))
         refine Cp (Xu 3 [(88, Vi N), (89, Vi (i64.wrap (N + 1))), (9, Vi (i64.wrap (N + 1)))] (Xe R ?_))
         have U := f.pk [1, 2, 3, 4] [[b], [a], Bk e, d] R
         have C := Pk (ls := [[y], [b], [a], Bk e, d]) [1, 2, 3, 4] [[b], [a], Bk e, d] R
         have j := j.sub C
         have p := p.sub C
         have q := q.sub C
         have s := s.sub C
         have f := U
         have t := t.pk [1, 2, 3] [[b], [a], Bk e] R
         exact Kt ⟨(bz.1, bz.2, i64.wrap (N + 1)), ⟨R, R, R, R, R, R, R, R, T0⟩, h, o, f, t, j, p, q, r, v, s⟩
       refine Ck (Kt (Cn [(0, Vl w n x), (3, Vp b 0), (7, Vp a 0), (8, Vl e F L), (9, Vi N), (46, Vl w n x), (47, Vi ((n).length : Int)), (48, Vi J)] (fun S => ?_)))
       refine Cp (Xu 3 [(88, Vi N), (89, Vi (i64.wrap (N + 1))), (9, Vi (i64.wrap (N + 1)))] (Xe R ?_))
       have U := f.pk [1, 2, 3, 4] [[b], [a], Bk e, d] R
       have C := Pk (ls := [[y], [b], [a], Bk e, d]) [1, 2, 3, 4] [[b], [a], Bk e, d] R
       have j := j.sub C
       have p := p.sub C
       have q := q.sub C
       have s := s.sub C
       have f := U
       have t := t.pk [1, 2, 3] [[b], [a], Bk e] R
       exact Kt ⟨(i.2.2.2.1, i.2.2.2.2.1, i64.wrap (N + 1)), ⟨R, R, R, R, R, R, R, R, T0⟩, h, o, f, t, j, p, q, r, v, s⟩
     refine Ck ?_
     have U := f.pk [1, 2, 3, 4] [[b], [a], Bk e, d] R
     have C := Pk (ls := [[y], [b], [a], Bk e, d]) [1, 2, 3, 4] [[b], [a], Bk e, d] R
     have j := j.sub C
     have p := p.sub C
     have q := q.sub C
     have s := s.sub C
     have f := U
     have t := t.pk [1, 2, 3] [[b], [a], Bk e] R
     exact Kt ⟨(i.2.2.2.1, i.2.2.2.2.1, N), ⟨R, R, R, R, R, R, R, R, T0⟩, h, o, f, t, j, p, q, r, v, s⟩
   rintro ⟨H, I, aw⟩ S ax ⟨h, o, f, t, j, p, q, r, v, s⟩
   refine Cd [] [(0, false), (1, false), (2, false), (3, false), (4, false), (5, false), (6, false), (7, false), (8, false), (9, false), (10, false), (11, false), (12, false), (13, false), (14, true), (15, true), (16, false)] _ (by kernel_rfl) R ?_
   have g := Stp.ext (ls := [[b], [a], Bk e, d]) (Ev.drew ax)
   have j := j.step g
   have r := (Ev.drew ax).box r nn
   have p := p.step g
   have q := q.step g
   have v := (Ev.drew ax).box v nn
   have s := s.step g (Ev.drew ax) nn2
   have f := f.ev (Ev.drew ax)
   have o := o.ext (Ev.drew ax)
   refine Xu 3 [(90, Vl e F L), (91, Vp a 0), (92, Vp a 0)] (Yf (Vp a 0) (Vp a 0) R (Rf tfld150_0 _ _) (Yl _ _ R (Ra 0 [Vi i.2.1, Vi i.2.2.1] tagg37 v nn R) (Xu 2 [(95, Vp a 0), (96, Vp a 0)] (Yf (Vp a 0) (Vp a 2) R (Rf tfld150_1 _ _) (Yl _ _ R (Ra 2 [Vi H, Vi I] tagg37 v nn R) (Xu 2 [(99, Vp a 0), (100, Vp a 0)] (Yg a 0 4 (.bool i.2.2.2.2.2) R R (Rf tfld150_2 _ _) tcell4 v nn R (Xd (vs := [(0, .agg #[Vi i.2.1, Vi i.2.2.1]), (1, .agg #[Vi H, Vi I]), (2, .bool i.2.2.2.2.2)]) (.agg #[Vi i.2.1, Vi i.2.2.1, Vi H, Vi I, .bool i.2.2.2.2.2, .bool false]) R R R (fun _ _ => by kernel_rfl) ?_))))))))
   refine Xb (vs := [(0, .agg #[Vi i.2.1, Vi i.2.2.1, Vi H, Vi I, .bool i.2.2.2.2.2, .bool false])]) #[Vi i.2.1, Vi i.2.2.1, Vi H, Vi I, .bool i.2.2.2.2.2, .bool false] 123 R R R (by kernel_rfl) (fun bp bw bX bJ ar cn => ?_)
   refine I1 ?_
   have bb := f
   have g := Stp.ext (ls := [[b], [a], Bk e, d]) ar
   have j := j.step g
   have r := ar.box r nn
   have p := p.step g
   have q := q.step g
   have v := ar.box v nn
   have s := s.step g ar nn2
   have f := f.ev ar
   have o := o.ext ar
   have b5 : SlR (eProd (eProd eI eI) (eProd (eProd eI eI) (eProd eBool eBool))) bw (fl [[b], [a], Bk e, d]) (Ad bp 0) 1 ([((i.2.1, i.2.2.1), (H, I), i.2.2.2.2.2, false)] : List ((Int × Int) × (Int × Int) × Bool × Bool)) := ro_of_box bb bX bJ R R (cells_at (cs := [Vi i.2.1, Vi i.2.2.1, Vi H, Vi I, .bool i.2.2.2.2.2, .bool false]) (CellsOf.cons (c := [Vi i.2.1, Vi i.2.2.1, Vi H, Vi I, .bool i.2.2.2.2.2, .bool false]) ⟨[Vi i.2.1, Vi i.2.2.1], [Vi H, Vi I, .bool i.2.2.2.2.2, .bool false], R, ⟨[Vi i.2.1], [Vi i.2.2.1], R, R, R⟩, ⟨[Vi H, Vi I], [.bool i.2.2.2.2.2, .bool false], R, ⟨[Vi H], [Vi I], R, R, R⟩, ⟨[.bool i.2.2.2.2.2], [.bool false], R, R, R⟩⟩⟩ CellsOf.nil))
   have ba := Gl h
   have h := Gr h
   obtain ⟨aj, a2, bn, b3, aI, be, cj, b8⟩ := own_appendN tel119 119 s (Mf 2 R) b5 ba
   refine x_builtin (vs := [Vl e F L, Vl (Ad bp 0) (([((i.2.1, i.2.2.1), (H, I), i.2.2.2.2.2, false)] : List ((Int × Int) × (Int × Int) × Bool × Bool))) 1]) _ bn R R R R (run_value _ _ _ _ b3) (I1 ?_)
   have g : Stp (fl [[b], [a], Bk e, d]) bw (fl [[b], [a], Bk aj, d]) bn := Stp.upd 2 aI R (fun u A => (be u A).1)
   have j := j.step g
   have r := aI.box r (f.apart 0 2 R R R _ mem1)
   have p := p.step g
   have q := q.step g
   have v := aI.box v (f.apart 1 2 R R R _ mem1)
   replace f : MS bn [[b], [a], Bk aj, d] := f.upd 2 aI R be
   have a9 : FR K.heap.size [[b], [a], Bk aj] := t.upd 2 R o.size (fun u A => (be u A).1)
   have o := o.then aI (fun u A => .inr (t.at 2 R u A))
   have t := a9
   have s := b8 (fl [[b], [a], Bk aj, d]) g.new
   refine Xu 1 [(8, Vl aj ((F ++ ([((i.2.1, i.2.2.1), (H, I), i.2.2.2.2.2, false)] : List ((Int × Int) × (Int × Int) × Bool × Bool)))) a2)] (Xe R (Kl (Kt (Cn [(0, Vl w n x), (3, Vp b 0), (7, Vp a 0), (8, Vl aj ((F ++ ([((i.2.1, i.2.2.1), (H, I), i.2.2.2.2.2, false)] : List ((Int × Int) × (Int × Int) × Bool × Bool)))) a2), (9, Vi aw), (46, Vl w n x), (47, Vi ((n).length : Int)), (48, Vi J)] (fun S => ?_)))))
   refine Cp (Xu 2 [(106, Vi (i64.wrap (J + 1))), (48, Vi (i64.wrap (J + 1)))] (Xe R ?_))
   obtain rfl := Sj h
   exact Kt ⟨(aQ, i.2.1, i.2.2.1, H, I, i.2.2.2.2.2, (F ++ ([((i.2.1, i.2.2.1), (H, I), i.2.2.2.2.2, false)] : List ((Int × Int) × (Int × Int) × Bool × Bool))), aw, i64.wrap (J + 1), aj, a2), ⟨R, R, R, R, R, R, R, R, T0⟩, ⟨au, o, f, t, j, p, q, r, v, s⟩, Ns _⟩
 refine Ce (Ke ?_)
 obtain rfl := Sj h
 have aO := Sj au
 subst aO
 have h := bs
 refine Ke (Ki (Kt (Cn [(8, Vl e F L)] (fun S => ?_))))
 refine Cs (Xu 3 [(107, Vl e F L), (4, Vl e F L), (5, Vi 0)] (Xk (Cr (Rr (Rv [Vl e F L, Vi 0] ⟨R, R, T0⟩ ?_)))))
 obtain rfl := Sj h
 have aK := f.pk [2, 3] [Bk e, d] R
 have C := Pk (ls := [[b], [a], Bk e, d]) [2, 3] [Bk e, d] R
 have aJ := t.pk [2] [Bk e] R
 exact ⟨e, L, R, o, aK, aJ, s.sub C⟩
def runoff_Point_L29 (k : List (Int × Int × Int × Int × Int)) (l : List Int) (m : List Int) (n : Int × Int × (List (Int × Int)) × Int × Int) : Option (Step (Int × Int × (List (Int × Int)) × Int × Int) (((List (Int × Int)) × Int) ⊕ (List (Int × Int)))) :=
match n with
| (g, d, h, j, i) =>
(if (decide (i < ((k).length : Int))) = true then
((idx k i).bind fun c =>
((runoff_roots d).bind fun a =>
((idx l i).bind fun o =>
((runoff_gain c.1 c.2.1 c.2.2.1 c.2.2.2.1 c.2.2.2.2 o).bind fun e =>
(if (decide ((i64.wrap (d + e.1)) < 0)) = true then
some (.done (.inl (h, i)))
else
((runoff_roots (i64.wrap (d + e.1))).bind fun b =>
(if ((i64.wrap (a.1 + b.1)) == 0) = true then
some (.done (.inl (h, i)))
else
(if i64.wrap (a.1 + b.1) ≠ 0 then
(if (decide (c.2.2.2.2 > 0)) = true then
((idx m j).bind fun f =>
(if (decide (f ≥ 0)) = true then
(if h.length + ([(if 1000000000 < (i64.wrap (g + (i64.wrap (Int.tdiv (i64.wrap ((i64.wrap ((i64.wrap ((i64.wrap (2000 * c.2.1)) + a.1)) + b.1)) - 1)) (i64.wrap (a.1 + b.1)))))) then 1000000000 else (i64.wrap (g + (i64.wrap (Int.tdiv (i64.wrap ((i64.wrap ((i64.wrap ((i64.wrap (2000 * c.2.1)) + a.1)) + b.1)) - 1)) (i64.wrap (a.1 + b.1)))))), if (i64.wrap ((i64.wrap (d + e.1)) - c.2.2.2.2)) > (if (i64.wrap (f * f)) < (i64.wrap (d + e.1)) then (i64.wrap (f * f)) else (i64.wrap (d + e.1))) then (i64.wrap ((i64.wrap (d + e.1)) - c.2.2.2.2)) else (if (i64.wrap (f * f)) < (i64.wrap (d + e.1)) then (i64.wrap (f * f)) else (i64.wrap (d + e.1))))] : List (Int × Int)).length ≤ 4294967296 then
some (.next (if 1000000000 < (i64.wrap (g + (i64.wrap (Int.tdiv (i64.wrap ((i64.wrap ((i64.wrap ((i64.wrap (2000 * c.2.1)) + a.1)) + b.1)) - 1)) (i64.wrap (a.1 + b.1)))))) then 1000000000 else (i64.wrap (g + (i64.wrap (Int.tdiv (i64.wrap ((i64.wrap ((i64.wrap ((i64.wrap (2000 * c.2.1)) + a.1)) + b.1)) - 1)) (i64.wrap (a.1 + b.1)))))), if (i64.wrap ((i64.wrap (d + e.1)) - c.2.2.2.2)) > (if (i64.wrap (f * f)) < (i64.wrap (d + e.1)) then (i64.wrap (f * f)) else (i64.wrap (d + e.1))) then (i64.wrap ((i64.wrap (d + e.1)) - c.2.2.2.2)) else (if (i64.wrap (f * f)) < (i64.wrap (d + e.1)) then (i64.wrap (f * f)) else (i64.wrap (d + e.1))), (h ++ ([(if 1000000000 < (i64.wrap (g + (i64.wrap (Int.tdiv (i64.wrap ((i64.wrap ((i64.wrap ((i64.wrap (2000 * c.2.1)) + a.1)) + b.1)) - 1)) (i64.wrap (a.1 + b.1)))))) then 1000000000 else (i64.wrap (g + (i64.wrap (Int.tdiv (i64.wrap ((i64.wrap ((i64.wrap ((i64.wrap (2000 * c.2.1)) + a.1)) + b.1)) - 1)) (i64.wrap (a.1 + b.1)))))), if (i64.wrap ((i64.wrap (d + e.1)) - c.2.2.2.2)) > (if (i64.wrap (f * f)) < (i64.wrap (d + e.1)) then (i64.wrap (f * f)) else (i64.wrap (d + e.1))) then (i64.wrap ((i64.wrap (d + e.1)) - c.2.2.2.2)) else (if (i64.wrap (f * f)) < (i64.wrap (d + e.1)) then (i64.wrap (f * f)) else (i64.wrap (d + e.1))))] : List (Int × Int))), i64.wrap (j + 1), i64.wrap (i + 1)))
else none)
else
(if h.length + ([(if 1000000000 < (i64.wrap (g + (i64.wrap (Int.tdiv (i64.wrap ((i64.wrap ((i64.wrap ((i64.wrap (2000 * c.2.1)) + a.1)) + b.1)) - 1)) (i64.wrap (a.1 + b.1)))))) then 1000000000 else (i64.wrap (g + (i64.wrap (Int.tdiv (i64.wrap ((i64.wrap ((i64.wrap ((i64.wrap (2000 * c.2.1)) + a.1)) + b.1)) - 1)) (i64.wrap (a.1 + b.1)))))), i64.wrap (d + e.1))] : List (Int × Int)).length ≤ 4294967296 then
some (.next (if 1000000000 < (i64.wrap (g + (i64.wrap (Int.tdiv (i64.wrap ((i64.wrap ((i64.wrap ((i64.wrap (2000 * c.2.1)) + a.1)) + b.1)) - 1)) (i64.wrap (a.1 + b.1)))))) then 1000000000 else (i64.wrap (g + (i64.wrap (Int.tdiv (i64.wrap ((i64.wrap ((i64.wrap ((i64.wrap (2000 * c.2.1)) + a.1)) + b.1)) - 1)) (i64.wrap (a.1 + b.1)))))), i64.wrap (d + e.1), (h ++ ([(if 1000000000 < (i64.wrap (g + (i64.wrap (Int.tdiv (i64.wrap ((i64.wrap ((i64.wrap ((i64.wrap (2000 * c.2.1)) + a.1)) + b.1)) - 1)) (i64.wrap (a.1 + b.1)))))) then 1000000000 else (i64.wrap (g + (i64.wrap (Int.tdiv (i64.wrap ((i64.wrap ((i64.wrap ((i64.wrap (2000 * c.2.1)) + a.1)) + b.1)) - 1)) (i64.wrap (a.1 + b.1)))))), i64.wrap (d + e.1))] : List (Int × Int))), i64.wrap (j + 1), i64.wrap (i + 1)))
else none)))
else
(if h.length + ([(if 1000000000 < (i64.wrap (g + (i64.wrap (Int.tdiv (i64.wrap ((i64.wrap ((i64.wrap ((i64.wrap (2000 * c.2.1)) + a.1)) + b.1)) - 1)) (i64.wrap (a.1 + b.1)))))) then 1000000000 else (i64.wrap (g + (i64.wrap (Int.tdiv (i64.wrap ((i64.wrap ((i64.wrap ((i64.wrap (2000 * c.2.1)) + a.1)) + b.1)) - 1)) (i64.wrap (a.1 + b.1)))))), i64.wrap (d + e.1))] : List (Int × Int)).length ≤ 4294967296 then
some (.next (if 1000000000 < (i64.wrap (g + (i64.wrap (Int.tdiv (i64.wrap ((i64.wrap ((i64.wrap ((i64.wrap (2000 * c.2.1)) + a.1)) + b.1)) - 1)) (i64.wrap (a.1 + b.1)))))) then 1000000000 else (i64.wrap (g + (i64.wrap (Int.tdiv (i64.wrap ((i64.wrap ((i64.wrap ((i64.wrap (2000 * c.2.1)) + a.1)) + b.1)) - 1)) (i64.wrap (a.1 + b.1)))))), i64.wrap (d + e.1), (h ++ ([(if 1000000000 < (i64.wrap (g + (i64.wrap (Int.tdiv (i64.wrap ((i64.wrap ((i64.wrap ((i64.wrap (2000 * c.2.1)) + a.1)) + b.1)) - 1)) (i64.wrap (a.1 + b.1)))))) then 1000000000 else (i64.wrap (g + (i64.wrap (Int.tdiv (i64.wrap ((i64.wrap ((i64.wrap ((i64.wrap (2000 * c.2.1)) + a.1)) + b.1)) - 1)) (i64.wrap (a.1 + b.1)))))), i64.wrap (d + e.1))] : List (Int × Int))), j, i64.wrap (i + 1)))
else none))
else none))))))))
else
some (.done (.inr h)))
def runoff_Point_L13 (b : List Int) (c : Int) : Option (Step Int (Unit ⊕ Unit)) :=
match c with
| a =>
(if (decide (a < ((b).length : Int))) = true then
((idx b a).bind fun d =>
((runoff_in d (-5000) 10000).bind fun e =>
(if (!e) = true then
some (.done (.inl ()))
else
some (.next (i64.wrap (a + 1))))))
else
some (.done (.inr ())))
def runoff_Point (b : List (Int × Int × Int × Int × Int)) (a : Int) (d : List Int) (e : List Int) : Option ((List (Int × Int)) × Int × Int) :=
((runoff_Valid b).bind fun f =>
(if (f != 0) = true then
some ([], 0, f)
else
(if (((d).length : Int) != ((b).length : Int)) = true then
some ([], 0, 1)
else
((runoff_retarders b).bind fun j =>
(if (((e).length : Int) != j) = true then
some ([], 0, 1)
else
((loop (runoff_Point_L13 d) 0).bind fun c => match c with
| (.inl _) => some ([], 0, 2)
| (.inr _) => ((runoff_in a 0 20000).bind fun k =>
(if (!k) = true then
some ([], 0, 2)
else
((runoff_targets e).bind fun l =>
(if (!l) = true then
some ([], 0, 2)
else
((loop (runoff_Point_L29 b d e) (0, i64.wrap (a * a), ([(0, i64.wrap (a * a))] : List (Int × Int)), 0, 0)).bind fun c => match c with
| (.inl (g, i)) => some (g, i, 0)
| (.inr h) => some (h, (-1), 0))))))))))))
theorem runoff_Point_w (I J y B aa ab H ad ae O a0 Z m) (k : MS Z [m]) (q : SlR (eProd eI (eIt4)) Z (fl [m]) I J y) (s : SlR eI Z (fl [m]) aa ab H) (t : SlR eI Z (fl [m]) ad ae O) (i : runoff_Point y B H O = some a0) : CallVC Tryz.prog 15 [Vl I y J, .agg #[Vi B, Vl aa H ab, Vl ad O ae]] Z fun ao Q => ∃ aJ bu, ao = .tuple #[Vl aJ a0.1 bu, Vi a0.2.1, Vi a0.2.2] ∧ Ev [] Z Q ∧ MS Q [Bk aJ, m] ∧ FR Z.heap.size [Bk aJ] ∧ OwnS (eProd eI eI) 58 Q (fl [Bk aJ, m]) aJ bu a0.1 := by
 refine Cv hmx Tryz.func15 (by kernel_rfl) R (rs := [.tmp 4, .tmp 5, .tmp 6]) R (by kernel_rfl) (args := [Vl I y J, .agg #[Vi B, Vl aa H ab, Vl ad O ae]]) R ?_
 have p : Ev [] Z Z := Ev.refl _ _
 have x : FR Z.heap.size [] := FR.nil _
 refine Cs (Yb _ R (fun j bE bk r bd c1 => ?_))
 replace r : bE.heap[j]? = some (.cells #[Vi B, Vl aa H ab, Vl ad O ae] 55 (0, 0)) := r
 refine I1 ?_
 have h := Stp.box (ls := [m]) bd bk
 have q := q.step h
 have s := s.step h
 have t := t.step h
 have k := k.box bd bk r
 have x := x.box p.size bk
 have p := p.ext bd
 refine Xu 3 [(4, Z0), (5, Vi 0), (6, Vi 0)] (Xk (Cq (Cs (Xu 1 [(22, Vl I y J)] ?_))))
 obtain ⟨aq, Y, i⟩ := Bs i
 have ac := runoff_Valid_w I J y _ bE (fl [[j], m]) (MS.fold (P := []) k) (q.sub fl1) Y
 refine Xc 21 #[] #[] _ _ R R R R ac ?_
 rintro ao az ⟨rfl, a6⟩
 refine I1 ?_
 have h := Stp.ext (ls := [[j], m]) a6
 have q := q.step h
 have s := s.step h
 have t := t.step h
 have r := a6.box r nn
 have k := k.ev a6
 have p := p.ext a6
 refine Xu 1 [(7, Vi aq)] (Xk (Cs (Xu 2 [(24, Vi aq), (25, .bool (aq != 0))] (Xk (Ci (aq != 0) R i (fun i => ?_) (fun i => ?_))))))
 · refine Cs (Xu 4 [(26, Vi aq), (4, Z0), (5, Vi 0), (6, Vi aq)] (Xk (Cn [(4, Z0), (5, Vi 0), (6, Vi aq)] (fun S => ?_))))
   refine Cr (Kr (Rr (Rv [Z0, Vi 0, Vi aq] ⟨R, R, R, T0⟩ ?_)))
   obtain rfl := Sj i
   have X := k.pick [none, some 1] [Bk none, m] R
   have U := x.pick [none] [Bk none] R
   exact ⟨none, 0, R, p, X, U, OwnS.nil _ _ _ _⟩
 refine Ck (Kt (Cq (Cq (Cd [] [(0, false), (1, false), (2, false), (3, false), (4, false), (5, false), (6, false), (7, false), (8, false), (9, false), (10, false), (11, false), (12, false), (13, false)] _ (by kernel_rfl) R ?_))))
 have h := Stp.ext (ls := [[j], m]) (Ev.drew az)
 have q := q.step h
 have s := s.step h
 have t := t.step h
 have r := (Ev.drew az).box r nn
 have k := k.ev (Ev.drew az)
 have p := p.ext (Ev.drew az)
 refine Yg j 0 1 (Vl aa H ab) R R (Rf tfld55_1 _ _) tcell22 r nn R (Xn (vs := [Vl aa H ab]) (Vi ((H).length : Int)) R R R (Rl tsl22 _ _ _ _ _) (Xu 1 [(30, Vl I y J)] (Xn (vs := [Vl I y J]) (Vi ((y).length : Int)) R R R (Rl tsl32 _ _ _ _ _) (Xu 2 [(32, .bool (((H).length : Int) != ((y).length : Int))), (33, .bool (((H).length : Int) != ((y).length : Int)))] (Xw 33 (((H).length : Int) != ((y).length : Int)) R i (fun i => ?_) (fun i => ?_))))))
 · refine Xu 7 [(34, U0), (35, U0), (36, U0), (37, U0), (38, U0), (39, U0), (40, .bool true)] (Xk (Cn [(0, Vl I y J), (3, Vp j 0), (40, .bool true)] (fun S => ?_)))
   refine c_true R (Cs (Xu 3 [(4, Z0), (5, Vi 0), (6, Vi 1)] (Xk (Cr (Kr (Rr (Rv [Z0, Vi 0, Vi 1] ⟨R, R, R, T0⟩ ?_)))))))
   obtain rfl := Sj i
   have X : MS (az).drew [Bk none, m] := k.pick [none, some 1] _ R
   have U := x.pick [none] [Bk none] R
   exact ⟨none, 0, R, p, X, U, OwnS.nil _ _ _ _⟩
 refine Yg j 0 2 (Vl ad O ae) R R (Rf tfld55_2 _ _) tcell22 r nn R (Xn (vs := [Vl ad O ae]) (Vi ((O).length : Int)) R R R (Rl tsl22 _ _ _ _ _) (Xu 1 [(37, Vl I y J)] ?_))
 obtain ⟨a7, Y, i⟩ := Bs i
 have am : MS (az).drew ([] ++ [[j], m]) := k.pk [0, 1] _ R
 have cu : ∀ aI ∈ fl ([] ++ [[j], m]), aI ∈ fl [[j], m] := Pk [0, 1] _ R
 have ct : ∀ aI ∈ fl ([] ++ [(fl [[j], m])]), aI ∈ fl [[j], m] := fun aI Y => cu aI (Fu aI Y)
 have ac := runoff_retarders_w I J y _ (az).drew (fl [[j], m]) (MS.fold (P := []) am) (q.sub ct) Y
 refine Xc 29 #[] #[] _ _ R R R R ac ?_
 rintro ao c7 ⟨rfl, aK⟩
 refine ⟨.inr aK, ?_⟩
 have h := Stp.ext (ls := [[j], m]) aK
 have q := q.step h
 have s := s.step h
 have t := t.step h
 have r := aK.box r nn
 have k := k.ev aK
 have p := p.ext aK
 refine Xu 2 [(39, .bool (((O).length : Int) != a7)), (40, .bool (((O).length : Int) != a7))] (Xk (Cn [(0, Vl I y J), (3, Vp j 0), (40, .bool (((O).length : Int) != a7))] (fun S => ?_)))
 refine Ci (((O).length : Int) != a7) R i (fun i => ?_) (fun i => ?_)
 · refine Cs (Xu 3 [(4, Z0), (5, Vi 0), (6, Vi 1)] (Xk (Cr (Kr (Rr (Rv [Z0, Vi 0, Vi 1] ⟨R, R, R, T0⟩ ?_))))))
   obtain rfl := Sj i
   have X := k.pick [none, some 1] [Bk none, m] R
   have U := x.pick [none] [Bk none] R
   exact ⟨none, 0, R, p, X, U, OwnS.nil _ _ _ _⟩
 refine Ck (Kt (Cq (Cs (Yg j 0 1 (Vl aa H ab) R R (Rf tfld55_1 _ _) tcell22 r nn R (Xn (vs := [Vl aa H ab]) (Vi ((H).length : Int)) R R R (Rl tsl22 _ _ _ _ _) (Xu 1 [(44, Vi 0)] (Xk (Cb ?_))))))))
 obtain ⟨bS, bb, bz⟩ := Bs i
 obtain ⟨aZ, bb⟩ := Lo bb
 refine Cl (Lr hmx (σ := Nat × Int) (fun af => match af with | (_, ag) => [(0, Vl I y J), (3, Vp j 0), (42, Vl aa H ab), (43, Vi ((H).length : Int)), (44, Vi ag)]) (fun af Q => match af with | (bl, ag) => loopN (runoff_Point_L13 H) bl ag = some bS ∧ Ev [] Z Q ∧ MS Q [[j], m] ∧ FR Z.heap.size [[j]] ∧ SlR (eProd eI (eIt4)) Q (fl [[j], m]) I J y ∧ SlR eI Q (fl [[j], m]) aa ab H ∧ SlR eI Q (fl [[j], m]) ad ae O ∧ Q.heap[j]? = some (.cells #[Vi B, Vl aa H ab, Vl ad O ae] 55 (0, 0))) (fun af => af.1) (aZ, 0) ⟨R, R, R, R, R, T0⟩ ⟨bb, p, k, x, q, s, t, r⟩ ?_)
 rintro ⟨aZ, ag⟩ S bJ ⟨aH, p, k, x, q, s, t, r⟩
 rcases aZ with _ | aZ
 · exact (Lz aH).elim
 obtain ⟨c5, i, aH⟩ := Bs aH
 refine Cs (Xu 1 [(45, Bd (ag < ((H).length : Int)))] (Xk (Cn [(0, Vl I y J), (3, Vp j 0), (42, Vl aa H ab), (43, Vi ((H).length : Int)), (44, Vi ag), (45, Bd (ag < ((H).length : Int)))] (fun S => ?_))))
 refine Cq (Ci (decide (ag < ((H).length : Int))) R i (fun i => ?_) (fun i => ?_))
 · refine Ck (Kt (Cq (Cb (Cs ?_))))
   obtain ⟨a8, cz, i⟩ := Bs i
   obtain ⟨cI, cL, cd, b5, ar⟩ := Ri (Mo := []) tsl22 s cz
   obtain rfl := ar
   refine Yi _ _ _ R cd (Yl _ (Vi a8) R (Rc tcell3 b5 (fun _ i => by cases i)) ?_)
   refine Xu 1 [(9, Vi a8)] (Xk (Cs (Xu 1 [(48, Vi a8)] ?_)))
   obtain ⟨bK, Y, i⟩ := Bs i
   have ac := runoff_in_w a8 (-5000) 10000 _ bJ Y
   refine Xc 30 #[] #[] _ _ R R R R ac ?_
   rintro ao c8 ⟨rfl, a1⟩
   refine I1 ?_
   have h := Stp.ext (ls := [[j], m]) a1
   have q := q.step h
   have r := a1.box r nn
   have s := s.step h
   have t := t.step h
   have k := k.ev a1
   have p := p.ext a1
   refine Xu 1 [(50, .bool (!bK))] (Xk (Ci (!bK) R i (fun i => ?_) (fun i => ?_)))
   · refine Cs (Xu 3 [(4, Z0), (5, Vi 0), (6, Vi 2)] (Xk (Cr (Kb (Kr ?_)))))
     obtain rfl := Sj i
     have an := Sj aH
     subst an
     have i := bz
     refine Kr (Kb (Kr (Rr (Rv [Z0, Vi 0, Vi 2] ⟨R, R, R, T0⟩ ?_))))
     obtain rfl := Sj i
     have X := k.pick [none, some 1] [Bk none, m] R
     have U := x.pick [none] [Bk none] R
     exact ⟨none, 0, R, p, X, U, OwnS.nil _ _ _ _⟩
   refine Ck (Kl (Kt (Cp (Xu 2 [(51, Vi (i64.wrap (ag + 1))), (44, Vi (i64.wrap (ag + 1)))] (Xe R ?_)))))
   obtain rfl := Sj i
   exact Kt ⟨(aZ, i64.wrap (ag + 1)), ⟨R, R, R, R, R, T0⟩, ⟨aH, p, k, x, q, s, t, r⟩, Ns _⟩
 refine Ce (Ke ?_)
 obtain rfl := Sj i
 have an := Sj aH
 subst an
 have i := bz
 refine Ke (Ki (Kt (Cn [(0, Vl I y J), (3, Vp j 0)] (fun S => ?_))))
 refine Cq (Cs (Yg j 0 0 (Vi B) R R (Rf tfld55_0 _ _) tcell3 r nn R ?_))
 obtain ⟨bp, Y, i⟩ := Bs i
 have ac := runoff_in_w B 0 20000 _ bJ Y
 refine Xc 30 #[] #[] _ _ R R R R ac ?_
 rintro ao cD ⟨rfl, a2⟩
 refine I1 ?_
 have h := Stp.ext (ls := [[j], m]) a2
 have q := q.step h
 have r := a2.box r nn
 have s := s.step h
 have t := t.step h
 have k := k.ev a2
 have p := p.ext a2
 refine Xu 2 [(55, .bool (!bp)), (56, .bool (!bp))] (Xw 56 (!bp) R i (fun i => ?_) (fun i => ?_))
 · refine Xu 5 [(57, U0), (58, U0), (59, U0), (60, U0), (61, .bool true)] (Xk (c_true R (Cs (Xu 3 [(4, Z0), (5, Vi 0), (6, Vi 2)] (Xk (Cn [(4, Z0), (5, Vi 0), (6, Vi 2)] (fun S => ?_)))))))
   refine Cr (Kr (Rr (Rv [Z0, Vi 0, Vi 2] ⟨R, R, R, T0⟩ ?_)))
   obtain rfl := Sj i
   have X := k.pick [none, some 1] [Bk none, m] R
   have U := x.pick [none] [Bk none] R
   exact ⟨none, 0, R, p, X, U, OwnS.nil _ _ _ _⟩
 refine Yg j 0 2 (Vl ad O ae) R R (Rf tfld55_2 _ _) tcell22 r nn R ?_
 obtain ⟨bq, Y, i⟩ := Bs i
 have ac := runoff_targets_w ad ae O _ cD (fl [[j], m]) (MS.fold (P := []) k) (t.sub fl1) Y
 refine Xc 31 #[] #[] _ _ R R R R ac ?_
 rintro ao c9 ⟨rfl, a3⟩
 refine I1 ?_
 have h := Stp.ext (ls := [[j], m]) a3
 have q := q.step h
 have r := a3.box r nn
 have s := s.step h
 have t := t.step h
 have k := k.ev a3
 have p := p.ext a3
 refine Xu 2 [(60, .bool (!bq)), (61, .bool (!bq))] (Xk (Ci (!bq) R i (fun i => ?_) (fun i => ?_)))
 · refine Cs (Xu 3 [(4, Z0), (5, Vi 0), (6, Vi 2)] (Xk (Cn [(4, Z0), (5, Vi 0), (6, Vi 2)] (fun S => ?_))))
   refine Cr (Kr (Rr (Rv [Z0, Vi 0, Vi 2] ⟨R, R, R, T0⟩ ?_)))
   obtain rfl := Sj i
   have X := k.pick [none, some 1] [Bk none, m] R
   have U := x.pick [none] [Bk none] R
   exact ⟨none, 0, R, p, X, U, OwnS.nil _ _ _ _⟩
 refine Ck (Kt (Cs (Yg j 0 0 (Vi B) R R (Rf tfld55_0 _ _) tcell3 r nn R (Yg j 0 0 (Vi B) R R (Rf tfld55_0 _ _) tcell3 r nn R (Xu 1 [(66, Vi (i64.wrap (B * B)))] (Xd (vs := [(1, Vi (i64.wrap (B * B)))]) (.agg #[Vi 0, Vi (i64.wrap (B * B))]) R R R (fun _ _ => by kernel_rfl) ?_))))))
 refine Xa (z := .agg #[Vi 0, Vi 0]) R R (by kernel_rfl) (fun n cE bi v a4 cY => ?_)
 replace v : cE.heap[n]? = some (.cells #[Vi 0, Vi 0] 58 (0, 0)) := v
 refine I1 ?_
 have h := Stp.box (ls := [[j], m]) a4 bi
 have q := q.step h
 have r := a4.box r nn
 have s := s.step h
 have t := t.step h
 have k := k.box a4 bi v
 have x := x.box p.size bi
 have p := p.ext a4
 obtain ⟨bB, ce, bX, a5⟩ := Sa [Vi 0, Vi (i64.wrap (B * B))] tagg58 v R R R
 refine Ys bB _ _ R ce (I1 ?_)
 have h := Stp.ev' (ls := [[n], [j], m]) a5 (Mf 0 R)
 have q := q.step h
 have r := a5.box r (k.apart 1 0 R R R _ mem1)
 have s := s.step h
 have t := t.step h
 have k := k.ev a5
 have p := p.then a5 (fun C F => .inr (x.at 0 R C F))
 have v := bX
 refine Xk (Cn [(0, Vl I y J), (3, Vp j 0), (10, Vp n 0)] (fun S => ?_))
 refine Cs (Yl _ _ R (Ra 0 [Vi 0, Vi (i64.wrap (B * B))] tagg58 v nn R) (Xb (vs := [(0, .agg #[Vi 0, Vi (i64.wrap (B * B))])]) #[Vi 0, Vi (i64.wrap (B * B))] 58 R R R (by kernel_rfl) (fun bQ bC b9 bA aL cZ => ?_)))
 refine I1 ?_
 obtain ⟨ah, a9⟩ : ∃ bN, bN = some (⟨bQ, 0, none⟩ : Addr) := ⟨_, R⟩
 have cv : ∀ m, OwnS (eProd eI eI) 58 bC m ah 1 ([(0, i64.wrap (B * B))] : List (Int × Int)) := fun m => a9 ▸ own_of_box bA (by decide) R R (cells_at (cs := [Vi 0, Vi (i64.wrap (B * B))]) (CellsOf.cons (c := [Vi 0, Vi (i64.wrap (B * B))]) ⟨[Vi 0], [Vi (i64.wrap (B * B))], R, R, R⟩ CellsOf.nil))
 have be : ∀ C ∈ Bk ah, bB.heap.size ≤ C ∧ C < bC.heap.size := by subst a9; intro C F; simp only [Bk, blk, List.mem_singleton] at F; subst F; exact ⟨Nat.le_of_eq b9.symm, lt_of_heap bA⟩
 have h := Stp.push (ls := [[n], [j], m]) (l := Bk ah) aL (fun _ i => by cases i) (fun C F => (be C F).1)
 have q := q.step h
 have r := aL.box r nn
 have s := s.step h
 have t := t.step h
 have v := aL.box v nn
 have k := k.push aL be
 have x := x.push (fun C F => Nat.le_trans p.size (be C F).1)
 have p := p.ext aL
 have w := cv (fl [Bk ah, [n], [j], m])
 rw [← a9]
 refine Xu 1 [(11, Vl ah (([(0, i64.wrap (B * B))] : List (Int × Int))) 1)] (Xk (Cs (Xu 1 [(12, Vi 0)] (Xk (Cq (Cs (Xu 1 [(70, Vl I y J)] (Xn (vs := [Vl I y J]) (Vi ((y).length : Int)) R R R (Rl tsl32 _ _ _ _ _) (Xu 1 [(72, Vi 0)] ?_)))))))))
 refine Xk (Cb ?_)
 have am := k.pk [2, 1, 0, 3] [[j], [n], Bk ah, m] R
 have K := Pk (ls := [Bk ah, [n], [j], m]) [2, 1, 0, 3] [[j], [n], Bk ah, m] R
 have s := s.sub K
 have t := t.sub K
 have w := w.sub K
 have q := q.sub K
 have k := am
 have x := x.pk [2, 1, 0] [[j], [n], Bk ah] R
 obtain ⟨bU, bc, ba⟩ := Bs i
 obtain ⟨ax, bc⟩ := Lo bc
 refine Cl (Lr hmx (σ := Nat × Int × Int × (List (Int × Int)) × Int × Int × Option Addr × Nat) (fun af => match af with | (_, o, e, E, N, D, u, G) => [(3, Vp j 0), (10, Vp n 0), (11, Vl u E G), (12, Vi N), (70, Vl I y J), (71, Vi ((y).length : Int)), (72, Vi D)]) (fun af Q => match af with | (bl, o, e, E, N, D, u, G) => loopN (runoff_Point_L29 y H O) bl (o, e, E, N, D) = some bU ∧ Ev [] Z Q ∧ MS Q [[j], [n], Bk u, m] ∧ FR Z.heap.size [[j], [n], Bk u] ∧ SlR eI Q (fl [[j], [n], Bk u, m]) aa ab H ∧ SlR eI Q (fl [[j], [n], Bk u, m]) ad ae O ∧ Q.heap[j]? = some (.cells #[Vi B, Vl aa H ab, Vl ad O ae] 55 (0, 0)) ∧ Q.heap[n]? = some (.cells #[Vi o, Vi e] 58 (0, 0)) ∧ OwnS (eProd eI eI) 58 Q (fl [[j], [n], Bk u, m]) u G E ∧ SlR (eProd eI (eIt4)) Q (fl [[j], [n], Bk u, m]) I J y) (fun af => af.1) (ax, 0, i64.wrap (B * B), ([(0, i64.wrap (B * B))] : List (Int × Int)), 0, 0, ah, 1) ⟨R, R, R, R, R, R, R, T0⟩ ⟨bc, p, k, x, s, t, r, v, w, q⟩ ?_)
 rintro ⟨ax, o, e, E, N, D, u, G⟩ S db ⟨al, p, k, x, s, t, r, v, w, q⟩
 rcases ax with _ | ax
 · exact (Lz al).elim
 obtain ⟨c6, i, al⟩ := Bs al
 refine Cs (Xu 1 [(73, Bd (D < ((y).length : Int)))] (Xk (Cn [(3, Vp j 0), (10, Vp n 0), (11, Vl u E G), (12, Vi N), (70, Vl I y J), (71, Vi ((y).length : Int)), (72, Vi D), (73, Bd (D < ((y).length : Int)))] (fun S => ?_))))
 refine Cq (Ci (decide (D < ((y).length : Int))) R i (fun i => ?_) (fun i => ?_))
 · refine Ck (Kt (Cq (Cb (Cs (Xu 1 [(74, Vi D)] ?_)))))
   obtain ⟨d, cA, i⟩ := Bs i
   obtain ⟨bO, cN, cf, b6, ar⟩ := Ri (Mo := []) tsl32 q cA
   obtain ⟨_, _, rfl, rfl, ⟨_, _, rfl, rfl, ⟨_, _, rfl, rfl, ⟨_, _, rfl, rfl, rfl⟩⟩⟩⟩ := ar
   refine Yi _ _ _ R cf (Yl (.pointer (some bO)) (.agg #[Vi d.1, Vi d.2.1, Vi d.2.2.1, Vi d.2.2.2.1, Vi d.2.2.2.2]) R (reads_agg tagg35 b6 (fun _ i => by cases i)) ?_)
   refine Xa (z := .agg #[Vi 0, Vi 0, Vi 0, Vi 0, Vi 0]) R R (by kernel_rfl) (fun A cF bj L aA c0 => ?_)
   replace L : cF.heap[A]? = some (.cells #[Vi 0, Vi 0, Vi 0, Vi 0, Vi 0] 35 (0, 0)) := L
   refine I1 ?_
   have h := Stp.box (ls := [[j], [n], Bk u, m]) aA bj
   have r := aA.box r nn
   have s := s.step h
   have t := t.step h
   have v := aA.box v nn
   have w := w.step h aA nn2
   have q := q.step h
   have k := k.box aA bj L
   have x := x.box p.size bj
   have p := p.ext aA
   refine Xu 1 [(13, Vi D)] ?_
   obtain ⟨bD, cg, bY, aB⟩ := Sa [Vi d.1, Vi d.2.1, Vi d.2.2.1, Vi d.2.2.2.1, Vi d.2.2.2.2] tagg35 L R R R
   refine Ys bD _ _ R cg (I1 ?_)
   have h := Stp.ev' (ls := [[A], [j], [n], Bk u, m]) aB (Mf 0 R)
   have r := aB.box r (k.apart 1 0 R R R _ mem1)
   have s := s.step h
   have t := t.step h
   have v := aB.box v (k.apart 2 0 R R R _ mem1)
   have w := w.step h aB (k.apart 3 0 R R R)
   have q := q.step h
   have k := k.ev aB
   have p := p.then aB (fun C F => .inr (x.at 0 R C F))
   have L := bY
   refine Xk (Cs (Yg n 0 1 (Vi e) R R (Rf tfld58_1 _ _) tcell3 v nn R ?_))
   obtain ⟨a, Y, i⟩ := Bs i
   have ac := runoff_roots_w e _ bD Y
   refine Xc 32 #[] #[] _ _ R R R R ac ?_
   rintro ao ap ⟨rfl, au⟩
   refine I1 ?_
   have h := Stp.ext (ls := [[A], [j], [n], Bk u, m]) au
   have r := au.box r nn
   have s := s.step h
   have t := t.step h
   have v := au.box v nn
   have w := w.step h au nn2
   have q := q.step h
   have L := au.box L nn
   have k := k.ev au
   have p := p.ext au
   refine Xu 5 [(77, .tuple #[Vi a.1, Vi a.2]), (81, Vi a.1), (82, Vi a.2), (15, Vi a.1), (16, Vi a.2)] (Xk (Cn [(3, Vp j 0), (10, Vp n 0), (11, Vl u E G), (12, Vi N), (13, Vi D), (14, Vp A 0), (15, Vi a.1), (70, Vl I y J), (71, Vi ((y).length : Int)), (72, Vi D)] (fun S => ?_)))
   refine Cq (Cd [] [(0, false), (1, false), (2, false), (3, false), (4, false), (5, false), (6, true), (7, false), (8, false), (9, false), (10, false), (11, false)] _ (by kernel_rfl) R ?_)
   have h := Stp.ext (ls := [[A], [j], [n], Bk u, m]) (Ev.drew ap)
   have r := (Ev.drew ap).box r nn
   have s := s.step h
   have t := t.step h
   have v := (Ev.drew ap).box v nn
   have w := w.step h (Ev.drew ap) nn2
   have q := q.step h
   have L := (Ev.drew ap).box L nn
   have k := k.ev (Ev.drew ap)
   have p := p.ext (Ev.drew ap)
   refine Yl _ _ R (Ra 0 [Vi d.1, Vi d.2.1, Vi d.2.2.1, Vi d.2.2.2.1, Vi d.2.2.2.2] tagg35 L nn R) (Yg j 0 1 (Vl aa H ab) R R (Rf tfld55_1 _ _) tcell22 r nn R (Xu 1 [(87, Vi D)] ?_))
   obtain ⟨bL, cB, i⟩ := Bs i
   obtain ⟨cJ, cO, ch, b7, ar⟩ := Ri (Mo := []) tsl22 s cB
   obtain rfl := ar
   refine Yi _ _ _ R ch (Yl _ (Vi bL) R (Rc tcell3 b7 (fun _ i => by cases i)) ?_)
   obtain ⟨f, Y, i⟩ := Bs i
   have ac := runoff_gain_w d.1 d.2.1 d.2.2.1 d.2.2.2.1 d.2.2.2.2 bL _ (ap).drew Y
   refine Xc 33 #[] #[] _ _ R R R R ac ?_
   rintro ao da ⟨rfl, av⟩
   refine I1 ?_
   have h := Stp.ext (ls := [[A], [j], [n], Bk u, m]) av
   have r := av.box r nn
   have s := s.step h
   have t := t.step h
   have v := av.box v nn
   have w := w.step h av nn2
   have q := q.step h
   have L := av.box L nn
   have k := k.ev av
   have p := p.ext av
   refine Xu 5 [(83, .tuple #[Vi f.1, Vi f.2]), (91, Vi f.1), (92, Vi f.2), (17, Vi f.1), (18, Vi f.2)] (Xk (Cs (Yg n 0 1 (Vi e) R R (Rf tfld58_1 _ _) tcell3 v nn R (Xu 2 [(95, Vi f.1), (96, Vi (i64.wrap (e + f.1)))] (Yf (Vp n 0) (Vp n 1) R (Rf tfld58_1 _ _) ?_)))))
   obtain ⟨bF, ci, bZ, aC⟩ := store_box 1 (Vi (i64.wrap (e + f.1))) #[Vi o, Vi (i64.wrap (e + f.1))] tcell3 v R R R
   refine Ys bF _ _ R ci (I1 ?_)
   have h := Stp.ev' (ls := [[A], [j], [n], Bk u, m]) aC (Mf 2 R)
   have r := aC.box r (k.apart 1 2 R R R _ mem1)
   have s := s.step h
   have t := t.step h
   have w := w.step h aC (k.apart 3 2 R R R)
   have q := q.step h
   have L := aC.box L (k.apart 0 2 R R R _ mem1)
   have k := k.ev aC
   have p := p.then aC (fun C F => .inr (x.at 2 R C F))
   have v := bZ
   refine Xk (Cn [(3, Vp j 0), (10, Vp n 0), (11, Vl u E G), (12, Vi N), (13, Vi D), (14, Vp A 0), (15, Vi a.1), (70, Vl I y J), (71, Vi ((y).length : Int)), (72, Vi D)] (fun S => ?_))
   refine Cq (Cs (Yg n 0 1 (Vi (i64.wrap (e + f.1))) R R (Rf tfld58_1 _ _) tcell3 v nn R (Xu 1 [(100, Bd ((i64.wrap (e + f.1)) < 0))] (Xk (Ci (decide ((i64.wrap (e + f.1)) < 0)) R i (fun i => ?_) (fun i => ?_))))))
   · refine Cs (Xu 5 [(101, Vl u E G), (102, Vi D), (4, Vl u E G), (5, Vi D), (6, Vi 0)] (Xk (Cr (Kr (Kb (Kr ?_))))))
     obtain rfl := Sj i
     have an := Sj al
     subst an
     have i := ba
     refine Kr (Kb (Kr (Rr (Rv [Vl u E G, Vi D, Vi 0] ⟨R, R, R, T0⟩ ?_))))
     obtain rfl := Sj i
     have X := k.pk [3, 4] [Bk u, m] R
     have K := Pk (ls := [[A], [j], [n], Bk u, m]) [3, 4] [Bk u, m] R
     have U := x.pk [3] [Bk u] R
     exact ⟨u, G, R, p, X, U, w.sub K⟩
   refine Ck (Kt (Cs (Yg n 0 1 (Vi (i64.wrap (e + f.1))) R R (Rf tfld58_1 _ _) tcell3 v nn R ?_)))
   obtain ⟨b, Y, i⟩ := Bs i
   have ac := runoff_roots_w (i64.wrap (e + f.1)) _ bF Y
   refine Xc 32 #[] #[] _ _ R R R R ac ?_
   rintro ao ay ⟨rfl, aw⟩
   refine I1 ?_
   have h := Stp.ext (ls := [[A], [j], [n], Bk u, m]) aw
   have r := aw.box r nn
   have s := s.step h
   have t := t.step h
   have v := aw.box v nn
   have w := w.step h aw nn2
   have q := q.step h
   have L := aw.box L nn
   have k := k.ev aw
   have p := p.ext aw
   refine Xu 5 [(103, .tuple #[Vi b.1, Vi b.2]), (107, Vi b.1), (108, Vi b.2), (19, Vi b.1), (20, Vi b.2)] (Xk (Cq (Cs (Xu 4 [(109, Vi a.1), (110, Vi b.1), (111, Vi (i64.wrap (a.1 + b.1))), (112, .bool ((i64.wrap (a.1 + b.1)) == 0))] (Xk (Cn [(3, Vp j 0), (10, Vp n 0), (11, Vl u E G), (12, Vi N), (13, Vi D), (14, Vp A 0), (15, Vi a.1), (19, Vi b.1), (70, Vl I y J), (71, Vi ((y).length : Int)), (72, Vi D), (112, .bool ((i64.wrap (a.1 + b.1)) == 0))] (fun S => ?_)))))))
   refine Ci ((i64.wrap (a.1 + b.1)) == 0) R i (fun i => ?_) (fun i => ?_)
   · refine Cs (Xu 5 [(113, Vl u E G), (114, Vi D), (4, Vl u E G), (5, Vi D), (6, Vi 0)] (Xk (Cr (Kr (Kb (Kr ?_))))))
     obtain rfl := Sj i
     have an := Sj al
     subst an
     have i := ba
     refine Kr (Kb (Kr (Rr (Rv [Vl u E G, Vi D, Vi 0] ⟨R, R, R, T0⟩ ?_))))
     obtain rfl := Sj i
     have X := k.pk [3, 4] [Bk u, m] R
     have K := Pk (ls := [[A], [j], [n], Bk u, m]) [3, 4] [Bk u, m] R
     have U := x.pk [3] [Bk u] R
     exact ⟨u, G, R, p, X, U, w.sub K⟩
   refine Ck (Kt (Cq (Cd [] [(0, false), (1, false), (2, false), (3, false), (4, false), (5, false), (6, false), (7, false), (8, false), (9, false), (10, false), (11, false), (12, false), (13, false), (14, false), (15, false), (16, false), (17, true)] _ (by kernel_rfl) R ?_)))
   have h := Stp.ext (ls := [[A], [j], [n], Bk u, m]) (Ev.drew ay)
   have r := (Ev.drew ay).box r nn
   have s := s.step h
   have t := t.step h
   have v := (Ev.drew ay).box v nn
   have w := w.step h (Ev.drew ay) nn2
   have q := q.step h
   have L := (Ev.drew ay).box L nn
   have k := k.ev (Ev.drew ay)
   have p := p.ext (Ev.drew ay)
   refine Yg n 0 0 (Vi o) R R (Rf tfld58_0 _ _) tcell3 v nn R (Yg A 0 1 (Vi d.2.1) R R (Rf tfld35_1 _ _) tcell3 L nn R (Xu 9 [(119, Vi (i64.wrap (2000 * d.2.1))), (120, Vi a.1), (121, Vi (i64.wrap ((i64.wrap (2000 * d.2.1)) + a.1))), (122, Vi b.1), (123, Vi (i64.wrap ((i64.wrap ((i64.wrap (2000 * d.2.1)) + a.1)) + b.1))), (124, Vi (i64.wrap ((i64.wrap ((i64.wrap ((i64.wrap (2000 * d.2.1)) + a.1)) + b.1)) - 1))), (125, Vi a.1), (126, Vi b.1), (127, Vi (i64.wrap (a.1 + b.1)))] (x_binop (Vi (i64.wrap (Int.tdiv (i64.wrap ((i64.wrap ((i64.wrap ((i64.wrap (2000 * d.2.1)) + a.1)) + b.1)) - 1)) (i64.wrap (a.1 + b.1))))) (Vi (i64.wrap ((i64.wrap ((i64.wrap ((i64.wrap (2000 * d.2.1)) + a.1)) + b.1)) - 1))) (Vi (i64.wrap (a.1 + b.1))) R R R R (vb_quo (Gl i)) ?_)))
   have i := Gr i
   refine Xu 1 [(129, Vi (i64.wrap (o + (i64.wrap (Int.tdiv (i64.wrap ((i64.wrap ((i64.wrap ((i64.wrap (2000 * d.2.1)) + a.1)) + b.1)) - 1)) (i64.wrap (a.1 + b.1)))))))] (x_min (vs := [Vi (i64.wrap (o + (i64.wrap (Int.tdiv (i64.wrap ((i64.wrap ((i64.wrap ((i64.wrap (2000 * d.2.1)) + a.1)) + b.1)) - 1)) (i64.wrap (a.1 + b.1)))))), Vi 1000000000]) (Vi (if 1000000000 < (i64.wrap (o + (i64.wrap (Int.tdiv (i64.wrap ((i64.wrap ((i64.wrap ((i64.wrap (2000 * d.2.1)) + a.1)) + b.1)) - 1)) (i64.wrap (a.1 + b.1)))))) then 1000000000 else (i64.wrap (o + (i64.wrap (Int.tdiv (i64.wrap ((i64.wrap ((i64.wrap ((i64.wrap (2000 * d.2.1)) + a.1)) + b.1)) - 1)) (i64.wrap (a.1 + b.1)))))))) R R R (fun _ _ => R) (Yf (Vp n 0) (Vp n 0) R (Rf tfld58_0 _ _) ?_))
   obtain ⟨cG, cj, b0, aD⟩ := store_box 0 (Vi (if 1000000000 < (i64.wrap (o + (i64.wrap (Int.tdiv (i64.wrap ((i64.wrap ((i64.wrap ((i64.wrap (2000 * d.2.1)) + a.1)) + b.1)) - 1)) (i64.wrap (a.1 + b.1)))))) then 1000000000 else (i64.wrap (o + (i64.wrap (Int.tdiv (i64.wrap ((i64.wrap ((i64.wrap ((i64.wrap (2000 * d.2.1)) + a.1)) + b.1)) - 1)) (i64.wrap (a.1 + b.1)))))))) #[Vi (if 1000000000 < (i64.wrap (o + (i64.wrap (Int.tdiv (i64.wrap ((i64.wrap ((i64.wrap ((i64.wrap (2000 * d.2.1)) + a.1)) + b.1)) - 1)) (i64.wrap (a.1 + b.1)))))) then 1000000000 else (i64.wrap (o + (i64.wrap (Int.tdiv (i64.wrap ((i64.wrap ((i64.wrap ((i64.wrap (2000 * d.2.1)) + a.1)) + b.1)) - 1)) (i64.wrap (a.1 + b.1))))))), Vi (i64.wrap (e + f.1))] tcell3 v R R R
   refine Ys cG _ _ R cj (I1 ?_)
   have h := Stp.ev' (ls := [[A], [j], [n], Bk u, m]) aD (Mf 2 R)
   have r := aD.box r (k.apart 1 2 R R R _ mem1)
   have s := s.step h
   have t := t.step h
   have w := w.step h aD (k.apart 3 2 R R R)
   have q := q.step h
   have L := aD.box L (k.apart 0 2 R R R _ mem1)
   have k := k.ev aD
   have p := p.then aD (fun C F => .inr (x.at 2 R C F))
   have v := b0
   refine Xk (Cn [(3, Vp j 0), (10, Vp n 0), (11, Vl u E G), (12, Vi N), (14, Vp A 0), (70, Vl I y J), (71, Vi ((y).length : Int)), (72, Vi D)] (fun S => ?_))
   refine Cq (Cs (Yg A 0 4 (Vi d.2.2.2.2) R R (Rf tfld35_4 _ _) tcell3 L nn R (Xu 1 [(134, Bd (d.2.2.2.2 > 0))] (Xk (Ci (decide (d.2.2.2.2 > 0)) R i (fun i => ?_) (fun i => ?_))))))
   · refine Cq (Cs (Yg j 0 2 (Vl ad O ae) R R (Rf tfld55_2 _ _) tcell22 r nn R (Xu 1 [(137, Vi N)] ?_)))
     obtain ⟨g, cC, i⟩ := Bs i
     obtain ⟨cK, cQ, ck, b8, ar⟩ := Ri (Mo := []) tsl22 t cC
     obtain rfl := ar
     refine Yi _ _ _ R ck (Yl _ (Vi g) R (Rc tcell3 b8 (fun _ i => by cases i)) ?_)
     refine Xu 1 [(21, Vi g)] (Xk (Cs (Xu 2 [(140, Vi g), (141, Bd (g ≥ 0))] (Xk (Ci (decide (g ≥ 0)) R i (fun i => ?_) (fun i => ?_))))))
     · refine Cp (Yg n 0 1 (Vi (i64.wrap (e + f.1))) R R (Rf tfld58_1 _ _) tcell3 v nn R (Xu 3 [(144, Vi g), (145, Vi g), (146, Vi (i64.wrap (g * g)))] (x_min (vs := [Vi (i64.wrap (e + f.1)), Vi (i64.wrap (g * g))]) (Vi (if (i64.wrap (g * g)) < (i64.wrap (e + f.1)) then (i64.wrap (g * g)) else (i64.wrap (e + f.1)))) R R R (fun _ _ => R) (Yg n 0 1 (Vi (i64.wrap (e + f.1))) R R (Rf tfld58_1 _ _) tcell3 v nn R (Yg A 0 4 (Vi d.2.2.2.2) R R (Rf tfld35_4 _ _) tcell3 L nn R (Xu 1 [(152, Vi (i64.wrap ((i64.wrap (e + f.1)) - d.2.2.2.2)))] ?_))))))
       refine x_max (vs := [Vi (if (i64.wrap (g * g)) < (i64.wrap (e + f.1)) then (i64.wrap (g * g)) else (i64.wrap (e + f.1))), Vi (i64.wrap ((i64.wrap (e + f.1)) - d.2.2.2.2))]) (Vi (if (i64.wrap ((i64.wrap (e + f.1)) - d.2.2.2.2)) > (if (i64.wrap (g * g)) < (i64.wrap (e + f.1)) then (i64.wrap (g * g)) else (i64.wrap (e + f.1))) then (i64.wrap ((i64.wrap (e + f.1)) - d.2.2.2.2)) else (if (i64.wrap (g * g)) < (i64.wrap (e + f.1)) then (i64.wrap (g * g)) else (i64.wrap (e + f.1))))) R R R (fun _ _ => R) (Yf (Vp n 0) (Vp n 1) R (Rf tfld58_1 _ _) ?_)
       obtain ⟨cH, cl, b1, aN⟩ := store_box 1 (Vi (if (i64.wrap ((i64.wrap (e + f.1)) - d.2.2.2.2)) > (if (i64.wrap (g * g)) < (i64.wrap (e + f.1)) then (i64.wrap (g * g)) else (i64.wrap (e + f.1))) then (i64.wrap ((i64.wrap (e + f.1)) - d.2.2.2.2)) else (if (i64.wrap (g * g)) < (i64.wrap (e + f.1)) then (i64.wrap (g * g)) else (i64.wrap (e + f.1))))) #[Vi (if 1000000000 < (i64.wrap (o + (i64.wrap (Int.tdiv (i64.wrap ((i64.wrap ((i64.wrap ((i64.wrap (2000 * d.2.1)) + a.1)) + b.1)) - 1)) (i64.wrap (a.1 + b.1)))))) then 1000000000 else (i64.wrap (o + (i64.wrap (Int.tdiv (i64.wrap ((i64.wrap ((i64.wrap ((i64.wrap (2000 * d.2.1)) + a.1)) + b.1)) - 1)) (i64.wrap (a.1 + b.1))))))), Vi (if (i64.wrap ((i64.wrap (e + f.1)) - d.2.2.2.2)) > (if (i64.wrap (g * g)) < (i64.wrap (e + f.1)) then (i64.wrap (g * g)) else (i64.wrap (e + f.1))) then (i64.wrap ((i64.wrap (e + f.1)) - d.2.2.2.2)) else (if (i64.wrap (g * g)) < (i64.wrap (e + f.1)) then (i64.wrap (g * g)) else (i64.wrap (e + f.1))))] tcell3 v R R R
       refine Ys cH _ _ R cl (I1 ?_)
       have h := Stp.ev' (ls := [[A], [j], [n], Bk u, m]) aN (Mf 2 R)
       have r := aN.box r (k.apart 1 2 R R R _ mem1)
       have s := s.step h
       have t := t.step h
       have w := w.step h aN (k.apart 3 2 R R R)
       have q := q.step h
       have k := k.ev aN
       have p := p.then aN (fun C F => .inr (x.at 2 R C F))
       have v := b1
       refine Xk (Cn [(3, Vp j 0), (10, Vp n 0), (11, Vl u E G), (12, Vi N), (70, Vl I y J), (71, Vi ((y).length : Int)), (72, Vi D)] (fun S => ?_))
       refine Cp (Xu 3 [(155, Vi N), (156, Vi (i64.wrap (N + 1))), (12, Vi (i64.wrap (N + 1)))] (Xk (Cp (Xu 1 [(157, Vl u E G)] (Yl _ _ R (Ra 0 [Vi (if 1000000000 < (i64.wrap (o + (i64.wrap (Int.tdiv (i64.wrap ((i64.wrap ((i64.wrap ((i64.wrap (2000 * d.2.1)) + a.1)) + b.1)) - 1)) (i64.wrap (a.1 + b.1)))))) then 1000000000 else (i64.wrap (o + (i64.wrap (Int.tdiv (i64.wrap ((i64.wrap ((i64.wrap ((i64.wrap (2000 * d.2.1)) + a.1)) + b.1)) - 1)) (i64.wrap (a.1 + b.1))))))), Vi (if (i64.wrap ((i64.wrap (e + f.1)) - d.2.2.2.2)) > (if (i64.wrap (g * g)) < (i64.wrap (e + f.1)) then (i64.wrap (g * g)) else (i64.wrap (e + f.1))) then (i64.wrap ((i64.wrap (e + f.1)) - d.2.2.2.2)) else (if (i64.wrap (g * g)) < (i64.wrap (e + f.1)) then (i64.wrap (g * g)) else (i64.wrap (e + f.1))))] tagg58 v nn R) (Xb (vs := [(0, .agg #[Vi (if 1000000000 < (i64.wrap (o + (i64.wrap (Int.tdiv (i64.wrap ((i64.wrap ((i64.wrap ((i64.wrap (2000 * d.2.1)) + a.1)) + b.1)) - 1)) (i64.wrap (a.1 + b.1)))))) then 1000000000 else (i64.wrap (o + (i64.wrap (Int.tdiv (i64.wrap ((i64.wrap ((i64.wrap ((i64.wrap (2000 * d.2.1)) + a.1)) + b.1)) - 1)) (i64.wrap (a.1 + b.1))))))), Vi (if (i64.wrap ((i64.wrap (e + f.1)) - d.2.2.2.2)) > (if (i64.wrap (g * g)) < (i64.wrap (e + f.1)) then (i64.wrap (g * g)) else (i64.wrap (e + f.1))) then (i64.wrap ((i64.wrap (e + f.1)) - d.2.2.2.2)) else (if (i64.wrap (g * g)) < (i64.wrap (e + f.1)) then (i64.wrap (g * g)) else (i64.wrap (e + f.1))))])]) #[Vi (if 1000000000 < (i64.wrap (o + (i64.wrap (Int.tdiv (i64.wrap ((i64.wrap ((i64.wrap ((i64.wrap (2000 * d.2.1)) + a.1)) + b.1)) - 1)) (i64.wrap (a.1 + b.1)))))) then 1000000000 else (i64.wrap (o + (i64.wrap (Int.tdiv (i64.wrap ((i64.wrap ((i64.wrap ((i64.wrap (2000 * d.2.1)) + a.1)) + b.1)) - 1)) (i64.wrap (a.1 + b.1))))))), Vi (if (i64.wrap ((i64.wrap (e + f.1)) - d.2.2.2.2)) > (if (i64.wrap (g * g)) < (i64.wrap (e + f.1)) then (i64.wrap (g * g)) else (i64.wrap (e + f.1))) then (i64.wrap ((i64.wrap (e + f.1)) - d.2.2.2.2)) else (if (i64.wrap (g * g)) < (i64.wrap (e + f.1)) then (i64.wrap (g * g)) else (i64.wrap (e + f.1))))] 58 R R R (by kernel_rfl) (fun br bG ca b2 aE c2 => ?_)))))))
       refine I1 ?_
       have aY := k
       have h := Stp.ext (ls := [[A], [j], [n], Bk u, m]) aE
       have r := aE.box r nn
       have s := s.step h
       have t := t.step h
       have v := aE.box v nn
       have w := w.step h aE nn2
       have q := q.step h
       have k := k.ev aE
       have p := p.ext aE
       have cp : SlR (eProd eI eI) bG (fl [[A], [j], [n], Bk u, m]) (Ad br 0) 1 ([(if 1000000000 < (i64.wrap (o + (i64.wrap (Int.tdiv (i64.wrap ((i64.wrap ((i64.wrap ((i64.wrap (2000 * d.2.1)) + a.1)) + b.1)) - 1)) (i64.wrap (a.1 + b.1)))))) then 1000000000 else (i64.wrap (o + (i64.wrap (Int.tdiv (i64.wrap ((i64.wrap ((i64.wrap ((i64.wrap (2000 * d.2.1)) + a.1)) + b.1)) - 1)) (i64.wrap (a.1 + b.1)))))), if (i64.wrap ((i64.wrap (e + f.1)) - d.2.2.2.2)) > (if (i64.wrap (g * g)) < (i64.wrap (e + f.1)) then (i64.wrap (g * g)) else (i64.wrap (e + f.1))) then (i64.wrap ((i64.wrap (e + f.1)) - d.2.2.2.2)) else (if (i64.wrap (g * g)) < (i64.wrap (e + f.1)) then (i64.wrap (g * g)) else (i64.wrap (e + f.1))))] : List (Int × Int)) := ro_of_box aY ca b2 R R (cells_at (cs := [Vi (if 1000000000 < (i64.wrap (o + (i64.wrap (Int.tdiv (i64.wrap ((i64.wrap ((i64.wrap ((i64.wrap (2000 * d.2.1)) + a.1)) + b.1)) - 1)) (i64.wrap (a.1 + b.1)))))) then 1000000000 else (i64.wrap (o + (i64.wrap (Int.tdiv (i64.wrap ((i64.wrap ((i64.wrap ((i64.wrap (2000 * d.2.1)) + a.1)) + b.1)) - 1)) (i64.wrap (a.1 + b.1))))))), Vi (if (i64.wrap ((i64.wrap (e + f.1)) - d.2.2.2.2)) > (if (i64.wrap (g * g)) < (i64.wrap (e + f.1)) then (i64.wrap (g * g)) else (i64.wrap (e + f.1))) then (i64.wrap ((i64.wrap (e + f.1)) - d.2.2.2.2)) else (if (i64.wrap (g * g)) < (i64.wrap (e + f.1)) then (i64.wrap (g * g)) else (i64.wrap (e + f.1))))]) (CellsOf.cons (c := [Vi (if 1000000000 < (i64.wrap (o + (i64.wrap (Int.tdiv (i64.wrap ((i64.wrap ((i64.wrap ((i64.wrap (2000 * d.2.1)) + a.1)) + b.1)) - 1)) (i64.wrap (a.1 + b.1)))))) then 1000000000 else (i64.wrap (o + (i64.wrap (Int.tdiv (i64.wrap ((i64.wrap ((i64.wrap ((i64.wrap (2000 * d.2.1)) + a.1)) + b.1)) - 1)) (i64.wrap (a.1 + b.1))))))), Vi (if (i64.wrap ((i64.wrap (e + f.1)) - d.2.2.2.2)) > (if (i64.wrap (g * g)) < (i64.wrap (e + f.1)) then (i64.wrap (g * g)) else (i64.wrap (e + f.1))) then (i64.wrap ((i64.wrap (e + f.1)) - d.2.2.2.2)) else (if (i64.wrap (g * g)) < (i64.wrap (e + f.1)) then (i64.wrap (g * g)) else (i64.wrap (e + f.1))))]) ⟨[Vi (if 1000000000 < (i64.wrap (o + (i64.wrap (Int.tdiv (i64.wrap ((i64.wrap ((i64.wrap ((i64.wrap (2000 * d.2.1)) + a.1)) + b.1)) - 1)) (i64.wrap (a.1 + b.1)))))) then 1000000000 else (i64.wrap (o + (i64.wrap (Int.tdiv (i64.wrap ((i64.wrap ((i64.wrap ((i64.wrap (2000 * d.2.1)) + a.1)) + b.1)) - 1)) (i64.wrap (a.1 + b.1)))))))], [Vi (if (i64.wrap ((i64.wrap (e + f.1)) - d.2.2.2.2)) > (if (i64.wrap (g * g)) < (i64.wrap (e + f.1)) then (i64.wrap (g * g)) else (i64.wrap (e + f.1))) then (i64.wrap ((i64.wrap (e + f.1)) - d.2.2.2.2)) else (if (i64.wrap (g * g)) < (i64.wrap (e + f.1)) then (i64.wrap (g * g)) else (i64.wrap (e + f.1))))], R, R, R⟩ CellsOf.nil))
       have aX := Gl i
       have i := Gr i
       obtain ⟨ai, bv, bm, cm, aO, bf, cS, cw⟩ := own_appendN tel51 51 w (Mf 3 R) cp aX
       refine x_builtin (vs := [Vl u E G, Vl (Ad br 0) (([(if 1000000000 < (i64.wrap (o + (i64.wrap (Int.tdiv (i64.wrap ((i64.wrap ((i64.wrap ((i64.wrap (2000 * d.2.1)) + a.1)) + b.1)) - 1)) (i64.wrap (a.1 + b.1)))))) then 1000000000 else (i64.wrap (o + (i64.wrap (Int.tdiv (i64.wrap ((i64.wrap ((i64.wrap ((i64.wrap (2000 * d.2.1)) + a.1)) + b.1)) - 1)) (i64.wrap (a.1 + b.1)))))), if (i64.wrap ((i64.wrap (e + f.1)) - d.2.2.2.2)) > (if (i64.wrap (g * g)) < (i64.wrap (e + f.1)) then (i64.wrap (g * g)) else (i64.wrap (e + f.1))) then (i64.wrap ((i64.wrap (e + f.1)) - d.2.2.2.2)) else (if (i64.wrap (g * g)) < (i64.wrap (e + f.1)) then (i64.wrap (g * g)) else (i64.wrap (e + f.1))))] : List (Int × Int))) 1]) _ bm R R R R (run_value _ _ _ _ cm) (I1 ?_)
       have h : Stp (fl [[A], [j], [n], Bk u, m]) bG (fl [[A], [j], [n], Bk ai, m]) bm := Stp.upd 3 aO R (fun C F => (bf C F).1)
       have r := aO.box r (k.apart 1 3 R R R _ mem1)
       have s := s.step h
       have t := t.step h
       have v := aO.box v (k.apart 2 3 R R R _ mem1)
       have q := q.step h
       replace k : MS bm [[A], [j], [n], Bk ai, m] := k.upd 3 aO R bf
       have aU : FR Z.heap.size [[A], [j], [n], Bk ai] := x.upd 3 R p.size (fun C F => (bf C F).1)
       have p := p.then aO (fun C F => .inr (x.at 3 R C F))
       have x := aU
       have w := cw (fl [[A], [j], [n], Bk ai, m]) h.new
       refine Xu 1 [(11, Vl ai ((E ++ ([(if 1000000000 < (i64.wrap (o + (i64.wrap (Int.tdiv (i64.wrap ((i64.wrap ((i64.wrap ((i64.wrap (2000 * d.2.1)) + a.1)) + b.1)) - 1)) (i64.wrap (a.1 + b.1)))))) then 1000000000 else (i64.wrap (o + (i64.wrap (Int.tdiv (i64.wrap ((i64.wrap ((i64.wrap ((i64.wrap (2000 * d.2.1)) + a.1)) + b.1)) - 1)) (i64.wrap (a.1 + b.1)))))), if (i64.wrap ((i64.wrap (e + f.1)) - d.2.2.2.2)) > (if (i64.wrap (g * g)) < (i64.wrap (e + f.1)) then (i64.wrap (g * g)) else (i64.wrap (e + f.1))) then (i64.wrap ((i64.wrap (e + f.1)) - d.2.2.2.2)) else (if (i64.wrap (g * g)) < (i64.wrap (e + f.1)) then (i64.wrap (g * g)) else (i64.wrap (e + f.1))))] : List (Int × Int)))) bv)] (Xe R (Kl (Kt (Cp (Xu 2 [(161, Vi (i64.wrap (D + 1))), (72, Vi (i64.wrap (D + 1)))] (Xe R ?_))))))
       obtain rfl := Sj i
       have am := k.pk [1, 2, 3, 4] [[j], [n], Bk ai, m] R
       have K := Pk (ls := [[A], [j], [n], Bk ai, m]) [1, 2, 3, 4] [[j], [n], Bk ai, m] R
       have s := s.sub K
       have t := t.sub K
       have w := w.sub K
       have q := q.sub K
       have k := am
       have x := x.pk [1, 2, 3] [[j], [n], Bk ai] R
       exact Kt ⟨(ax, if 1000000000 < (i64.wrap (o + (i64.wrap (Int.tdiv (i64.wrap ((i64.wrap ((i64.wrap ((i64.wrap (2000 * d.2.1)) + a.1)) + b.1)) - 1)) (i64.wrap (a.1 + b.1)))))) then 1000000000 else (i64.wrap (o + (i64.wrap (Int.tdiv (i64.wrap ((i64.wrap ((i64.wrap ((i64.wrap (2000 * d.2.1)) + a.1)) + b.1)) - 1)) (i64.wrap (a.1 + b.1)))))), if (i64.wrap ((i64.wrap (e + f.1)) - d.2.2.2.2)) > (if (i64.wrap (g * g)) < (i64.wrap (e + f.1)) then (i64.wrap (g * g)) else (i64.wrap (e + f.1))) then (i64.wrap ((i64.wrap (e + f.1)) - d.2.2.2.2)) else (if (i64.wrap (g * g)) < (i64.wrap (e + f.1)) then (i64.wrap (g * g)) else (i64.wrap (e + f.1))), (E ++ ([(if 1000000000 < (i64.wrap (o + (i64.wrap (Int.tdiv (i64.wrap ((i64.wrap ((i64.wrap ((i64.wrap (2000 * d.2.1)) + a.1)) + b.1)) - 1)) (i64.wrap (a.1 + b.1)))))) then 1000000000 else (i64.wrap (o + (i64.wrap (Int.tdiv (i64.wrap ((i64.wrap ((i64.wrap ((i64.wrap (2000 * d.2.1)) + a.1)) + b.1)) - 1)) (i64.wrap (a.1 + b.1)))))), if (i64.wrap ((i64.wrap (e + f.1)) - d.2.2.2.2)) > (if (i64.wrap (g * g)) < (i64.wrap (e + f.1)) then (i64.wrap (g * g)) else (i64.wrap (e + f.1))) then (i64.wrap ((i64.wrap (e + f.1)) - d.2.2.2.2)) else (if (i64.wrap (g * g)) < (i64.wrap (e + f.1)) then (i64.wrap (g * g)) else (i64.wrap (e + f.1))))] : List (Int × Int))), i64.wrap (N + 1), i64.wrap (D + 1), ai, bv), ⟨R, R, R, R, R, R, R, T0⟩, ⟨al, p, k, x, s, t, r, v, w, q⟩, Ns _⟩
     refine Ck (Kt (Cp (Xu 3 [(155, Vi N), (156, Vi (i64.wrap (N + 1))), (12, Vi (i64.wrap (N + 1)))] (Xk (Cn [(3, Vp j 0), (10, Vp n 0), (11, Vl u E G), (12, Vi (i64.wrap (N + 1))), (70, Vl I y J), (71, Vi ((y).length : Int)), (72, Vi D)] (fun S => ?_))))))
     refine Cp (Xu 1 [(157, Vl u E G)] (Yl _ _ R (Ra 0 [Vi (if 1000000000 < (i64.wrap (o + (i64.wrap (Int.tdiv (i64.wrap ((i64.wrap ((i64.wrap ((i64.wrap (2000 * d.2.1)) + a.1)) + b.1)) - 1)) (i64.wrap (a.1 + b.1)))))) then 1000000000 else (i64.wrap (o + (i64.wrap (Int.tdiv (i64.wrap ((i64.wrap ((i64.wrap ((i64.wrap (2000 * d.2.1)) + a.1)) + b.1)) - 1)) (i64.wrap (a.1 + b.1))))))), Vi (i64.wrap (e + f.1))] tagg58 v nn R) (Xb (vs := [(0, .agg #[Vi (if 1000000000 < (i64.wrap (o + (i64.wrap (Int.tdiv (i64.wrap ((i64.wrap ((i64.wrap ((i64.wrap (2000 * d.2.1)) + a.1)) + b.1)) - 1)) (i64.wrap (a.1 + b.1)))))) then 1000000000 else (i64.wrap (o + (i64.wrap (Int.tdiv (i64.wrap ((i64.wrap ((i64.wrap ((i64.wrap (2000 * d.2.1)) + a.1)) + b.1)) - 1)) (i64.wrap (a.1 + b.1))))))), Vi (i64.wrap (e + f.1))])]) #[Vi (if 1000000000 < (i64.wrap (o + (i64.wrap (Int.tdiv (i64.wrap ((i64.wrap ((i64.wrap ((i64.wrap (2000 * d.2.1)) + a.1)) + b.1)) - 1)) (i64.wrap (a.1 + b.1)))))) then 1000000000 else (i64.wrap (o + (i64.wrap (Int.tdiv (i64.wrap ((i64.wrap ((i64.wrap ((i64.wrap (2000 * d.2.1)) + a.1)) + b.1)) - 1)) (i64.wrap (a.1 + b.1))))))), Vi (i64.wrap (e + f.1))] 58 R R R (by kernel_rfl) (fun bs bH cb b3 aF c3 => ?_))))
     refine I1 ?_
     have aY := k
     have h := Stp.ext (ls := [[A], [j], [n], Bk u, m]) aF
     have r := aF.box r nn
     have s := s.step h
     have t := t.step h
     have v := aF.box v nn
     have w := w.step h aF nn2
     have q := q.step h
     have k := k.ev aF
     have p := p.ext aF
     have cq : SlR (eProd eI eI) bH (fl [[A], [j], [n], Bk u, m]) (Ad bs 0) 1 ([(if 1000000000 < (i64.wrap (o + (i64.wrap (Int.tdiv (i64.wrap ((i64.wrap ((i64.wrap ((i64.wrap (2000 * d.2.1)) + a.1)) + b.1)) - 1)) (i64.wrap (a.1 + b.1)))))) then 1000000000 else (i64.wrap (o + (i64.wrap (Int.tdiv (i64.wrap ((i64.wrap ((i64.wrap ((i64.wrap (2000 * d.2.1)) + a.1)) + b.1)) - 1)) (i64.wrap (a.1 + b.1)))))), i64.wrap (e + f.1))] : List (Int × Int)) := ro_of_box aY cb b3 R R (cells_at (cs := [Vi (if 1000000000 < (i64.wrap (o + (i64.wrap (Int.tdiv (i64.wrap ((i64.wrap ((i64.wrap ((i64.wrap (2000 * d.2.1)) + a.1)) + b.1)) - 1)) (i64.wrap (a.1 + b.1)))))) then 1000000000 else (i64.wrap (o + (i64.wrap (Int.tdiv (i64.wrap ((i64.wrap ((i64.wrap ((i64.wrap (2000 * d.2.1)) + a.1)) + b.1)) - 1)) (i64.wrap (a.1 + b.1))))))), Vi (i64.wrap (e + f.1))]) (CellsOf.cons (c := [Vi (if 1000000000 < (i64.wrap (o + (i64.wrap (Int.tdiv (i64.wrap ((i64.wrap ((i64.wrap ((i64.wrap (2000 * d.2.1)) + a.1)) + b.1)) - 1)) (i64.wrap (a.1 + b.1)))))) then 1000000000 else (i64.wrap (o + (i64.wrap (Int.tdiv (i64.wrap ((i64.wrap ((i64.wrap ((i64.wrap (2000 * d.2.1)) + a.1)) + b.1)) - 1)) (i64.wrap (a.1 + b.1))))))), Vi (i64.wrap (e + f.1))]) ⟨[Vi (if 1000000000 < (i64.wrap (o + (i64.wrap (Int.tdiv (i64.wrap ((i64.wrap ((i64.wrap ((i64.wrap (2000 * d.2.1)) + a.1)) + b.1)) - 1)) (i64.wrap (a.1 + b.1)))))) then 1000000000 else (i64.wrap (o + (i64.wrap (Int.tdiv (i64.wrap ((i64.wrap ((i64.wrap ((i64.wrap (2000 * d.2.1)) + a.1)) + b.1)) - 1)) (i64.wrap (a.1 + b.1)))))))], [Vi (i64.wrap (e + f.1))], R, R, R⟩ CellsOf.nil))
     have aX := Gl i
     have i := Gr i
     obtain ⟨aj, bw, bn, cn, aQ, bg, cU, cx⟩ := own_appendN tel51 51 w (Mf 3 R) cq aX
     refine x_builtin (vs := [Vl u E G, Vl (Ad bs 0) (([(if 1000000000 < (i64.wrap (o + (i64.wrap (Int.tdiv (i64.wrap ((i64.wrap ((i64.wrap ((i64.wrap (2000 * d.2.1)) + a.1)) + b.1)) - 1)) (i64.wrap (a.1 + b.1)))))) then 1000000000 else (i64.wrap (o + (i64.wrap (Int.tdiv (i64.wrap ((i64.wrap ((i64.wrap ((i64.wrap (2000 * d.2.1)) + a.1)) + b.1)) - 1)) (i64.wrap (a.1 + b.1)))))), i64.wrap (e + f.1))] : List (Int × Int))) 1]) _ bn R R R R (run_value _ _ _ _ cn) (I1 ?_)
     have h : Stp (fl [[A], [j], [n], Bk u, m]) bH (fl [[A], [j], [n], Bk aj, m]) bn := Stp.upd 3 aQ R (fun C F => (bg C F).1)
     have r := aQ.box r (k.apart 1 3 R R R _ mem1)
     have s := s.step h
     have t := t.step h
     have v := aQ.box v (k.apart 2 3 R R R _ mem1)
     have q := q.step h
     replace k : MS bn [[A], [j], [n], Bk aj, m] := k.upd 3 aQ R bg
     have aU : FR Z.heap.size [[A], [j], [n], Bk aj] := x.upd 3 R p.size (fun C F => (bg C F).1)
     have p := p.then aQ (fun C F => .inr (x.at 3 R C F))
     have x := aU
     have w := cx (fl [[A], [j], [n], Bk aj, m]) h.new
     refine Xu 1 [(11, Vl aj ((E ++ ([(if 1000000000 < (i64.wrap (o + (i64.wrap (Int.tdiv (i64.wrap ((i64.wrap ((i64.wrap ((i64.wrap (2000 * d.2.1)) + a.1)) + b.1)) - 1)) (i64.wrap (a.1 + b.1)))))) then 1000000000 else (i64.wrap (o + (i64.wrap (Int.tdiv (i64.wrap ((i64.wrap ((i64.wrap ((i64.wrap (2000 * d.2.1)) + a.1)) + b.1)) - 1)) (i64.wrap (a.1 + b.1)))))), i64.wrap (e + f.1))] : List (Int × Int)))) bw)] (Xe R (Kl (Kt (Cp (Xu 2 [(161, Vi (i64.wrap (D + 1))), (72, Vi (i64.wrap (D + 1)))] (Xe R ?_))))))
     obtain rfl := Sj i
     have am := k.pk [1, 2, 3, 4] [[j], [n], Bk aj, m] R
     have K := Pk (ls := [[A], [j], [n], Bk aj, m]) [1, 2, 3, 4] [[j], [n], Bk aj, m] R
     have s := s.sub K
     have t := t.sub K
     have w := w.sub K
     have q := q.sub K
     have k := am
     have x := x.pk [1, 2, 3] [[j], [n], Bk aj] R
     exact Kt ⟨(ax, if 1000000000 < (i64.wrap (o + (i64.wrap (Int.tdiv (i64.wrap ((i64.wrap ((i64.wrap ((i64.wrap (2000 * d.2.1)) + a.1)) + b.1)) - 1)) (i64.wrap (a.1 + b.1)))))) then 1000000000 else (i64.wrap (o + (i64.wrap (Int.tdiv (i64.wrap ((i64.wrap ((i64.wrap ((i64.wrap (2000 * d.2.1)) + a.1)) + b.1)) - 1)) (i64.wrap (a.1 + b.1)))))), i64.wrap (e + f.1), (E ++ ([(if 1000000000 < (i64.wrap (o + (i64.wrap (Int.tdiv (i64.wrap ((i64.wrap ((i64.wrap ((i64.wrap (2000 * d.2.1)) + a.1)) + b.1)) - 1)) (i64.wrap (a.1 + b.1)))))) then 1000000000 else (i64.wrap (o + (i64.wrap (Int.tdiv (i64.wrap ((i64.wrap ((i64.wrap ((i64.wrap (2000 * d.2.1)) + a.1)) + b.1)) - 1)) (i64.wrap (a.1 + b.1)))))), i64.wrap (e + f.1))] : List (Int × Int))), i64.wrap (N + 1), i64.wrap (D + 1), aj, bw), ⟨R, R, R, R, R, R, R, T0⟩, ⟨al, p, k, x, s, t, r, v, w, q⟩, Ns _⟩
   refine Ck (Kt (Cp (Xu 1 [(157, Vl u E G)] (Yl _ _ R (Ra 0 [Vi (if 1000000000 < (i64.wrap (o + (i64.wrap (Int.tdiv (i64.wrap ((i64.wrap ((i64.wrap ((i64.wrap (2000 * d.2.1)) + a.1)) + b.1)) - 1)) (i64.wrap (a.1 + b.1)))))) then 1000000000 else (i64.wrap (o + (i64.wrap (Int.tdiv (i64.wrap ((i64.wrap ((i64.wrap ((i64.wrap (2000 * d.2.1)) + a.1)) + b.1)) - 1)) (i64.wrap (a.1 + b.1))))))), Vi (i64.wrap (e + f.1))] tagg58 v nn R) (Xb (vs := [(0, .agg #[Vi (if 1000000000 < (i64.wrap (o + (i64.wrap (Int.tdiv (i64.wrap ((i64.wrap ((i64.wrap ((i64.wrap (2000 * d.2.1)) + a.1)) + b.1)) - 1)) (i64.wrap (a.1 + b.1)))))) then 1000000000 else (i64.wrap (o + (i64.wrap (Int.tdiv (i64.wrap ((i64.wrap ((i64.wrap ((i64.wrap (2000 * d.2.1)) + a.1)) + b.1)) - 1)) (i64.wrap (a.1 + b.1))))))), Vi (i64.wrap (e + f.1))])]) #[Vi (if 1000000000 < (i64.wrap (o + (i64.wrap (Int.tdiv (i64.wrap ((i64.wrap ((i64.wrap ((i64.wrap (2000 * d.2.1)) + a.1)) + b.1)) - 1)) (i64.wrap (a.1 + b.1)))))) then 1000000000 else (i64.wrap (o + (i64.wrap (Int.tdiv (i64.wrap ((i64.wrap ((i64.wrap ((i64.wrap (2000 * d.2.1)) + a.1)) + b.1)) - 1)) (i64.wrap (a.1 + b.1))))))), Vi (i64.wrap (e + f.1))] 58 R R R (by kernel_rfl) (fun bt bI cc b4 aG c4 => ?_))))))
   refine I1 ?_
   have aY := k
   have h := Stp.ext (ls := [[A], [j], [n], Bk u, m]) aG
   have r := aG.box r nn
   have s := s.step h
   have t := t.step h
   have v := aG.box v nn
   have w := w.step h aG nn2
   have q := q.step h
   have k := k.ev aG
   have p := p.ext aG
   have cr : SlR (eProd eI eI) bI (fl [[A], [j], [n], Bk u, m]) (Ad bt 0) 1 ([(if 1000000000 < (i64.wrap (o + (i64.wrap (Int.tdiv (i64.wrap ((i64.wrap ((i64.wrap ((i64.wrap (2000 * d.2.1)) + a.1)) + b.1)) - 1)) (i64.wrap (a.1 + b.1)))))) then 1000000000 else (i64.wrap (o + (i64.wrap (Int.tdiv (i64.wrap ((i64.wrap ((i64.wrap ((i64.wrap (2000 * d.2.1)) + a.1)) + b.1)) - 1)) (i64.wrap (a.1 + b.1)))))), i64.wrap (e + f.1))] : List (Int × Int)) := ro_of_box aY cc b4 R R (cells_at (cs := [Vi (if 1000000000 < (i64.wrap (o + (i64.wrap (Int.tdiv (i64.wrap ((i64.wrap ((i64.wrap ((i64.wrap (2000 * d.2.1)) + a.1)) + b.1)) - 1)) (i64.wrap (a.1 + b.1)))))) then 1000000000 else (i64.wrap (o + (i64.wrap (Int.tdiv (i64.wrap ((i64.wrap ((i64.wrap ((i64.wrap (2000 * d.2.1)) + a.1)) + b.1)) - 1)) (i64.wrap (a.1 + b.1))))))), Vi (i64.wrap (e + f.1))]) (CellsOf.cons (c := [Vi (if 1000000000 < (i64.wrap (o + (i64.wrap (Int.tdiv (i64.wrap ((i64.wrap ((i64.wrap ((i64.wrap (2000 * d.2.1)) + a.1)) + b.1)) - 1)) (i64.wrap (a.1 + b.1)))))) then 1000000000 else (i64.wrap (o + (i64.wrap (Int.tdiv (i64.wrap ((i64.wrap ((i64.wrap ((i64.wrap (2000 * d.2.1)) + a.1)) + b.1)) - 1)) (i64.wrap (a.1 + b.1))))))), Vi (i64.wrap (e + f.1))]) ⟨[Vi (if 1000000000 < (i64.wrap (o + (i64.wrap (Int.tdiv (i64.wrap ((i64.wrap ((i64.wrap ((i64.wrap (2000 * d.2.1)) + a.1)) + b.1)) - 1)) (i64.wrap (a.1 + b.1)))))) then 1000000000 else (i64.wrap (o + (i64.wrap (Int.tdiv (i64.wrap ((i64.wrap ((i64.wrap ((i64.wrap (2000 * d.2.1)) + a.1)) + b.1)) - 1)) (i64.wrap (a.1 + b.1)))))))], [Vi (i64.wrap (e + f.1))], R, R, R⟩ CellsOf.nil))
   have aX := Gl i
   have i := Gr i
   obtain ⟨ak, bx, bo, co, aS, bh, cX, cy⟩ := own_appendN tel51 51 w (Mf 3 R) cr aX
   refine x_builtin (vs := [Vl u E G, Vl (Ad bt 0) (([(if 1000000000 < (i64.wrap (o + (i64.wrap (Int.tdiv (i64.wrap ((i64.wrap ((i64.wrap ((i64.wrap (2000 * d.2.1)) + a.1)) + b.1)) - 1)) (i64.wrap (a.1 + b.1)))))) then 1000000000 else (i64.wrap (o + (i64.wrap (Int.tdiv (i64.wrap ((i64.wrap ((i64.wrap ((i64.wrap (2000 * d.2.1)) + a.1)) + b.1)) - 1)) (i64.wrap (a.1 + b.1)))))), i64.wrap (e + f.1))] : List (Int × Int))) 1]) _ bo R R R R (run_value _ _ _ _ co) (I1 ?_)
   have h : Stp (fl [[A], [j], [n], Bk u, m]) bI (fl [[A], [j], [n], Bk ak, m]) bo := Stp.upd 3 aS R (fun C F => (bh C F).1)
   have r := aS.box r (k.apart 1 3 R R R _ mem1)
   have s := s.step h
   have t := t.step h
   have v := aS.box v (k.apart 2 3 R R R _ mem1)
   have q := q.step h
   replace k : MS bo [[A], [j], [n], Bk ak, m] := k.upd 3 aS R bh
   have aU : FR Z.heap.size [[A], [j], [n], Bk ak] := x.upd 3 R p.size (fun C F => (bh C F).1)
   have p := p.then aS (fun C F => .inr (x.at 3 R C F))
   have x := aU
   have w := cy (fl [[A], [j], [n], Bk ak, m]) h.new
   refine Xu 1 [(11, Vl ak ((E ++ ([(if 1000000000 < (i64.wrap (o + (i64.wrap (Int.tdiv (i64.wrap ((i64.wrap ((i64.wrap ((i64.wrap (2000 * d.2.1)) + a.1)) + b.1)) - 1)) (i64.wrap (a.1 + b.1)))))) then 1000000000 else (i64.wrap (o + (i64.wrap (Int.tdiv (i64.wrap ((i64.wrap ((i64.wrap ((i64.wrap (2000 * d.2.1)) + a.1)) + b.1)) - 1)) (i64.wrap (a.1 + b.1)))))), i64.wrap (e + f.1))] : List (Int × Int)))) bx)] (Xe R (Kl (Kt (Cp (Xu 2 [(161, Vi (i64.wrap (D + 1))), (72, Vi (i64.wrap (D + 1)))] (Xe R ?_))))))
   obtain rfl := Sj i
   have am := k.pk [1, 2, 3, 4] [[j], [n], Bk ak, m] R
   have K := Pk (ls := [[A], [j], [n], Bk ak, m]) [1, 2, 3, 4] [[j], [n], Bk ak, m] R
   have s := s.sub K
   have t := t.sub K
   have w := w.sub K
   have q := q.sub K
   have k := am
   have x := x.pk [1, 2, 3] [[j], [n], Bk ak] R
   exact Kt ⟨(ax, if 1000000000 < (i64.wrap (o + (i64.wrap (Int.tdiv (i64.wrap ((i64.wrap ((i64.wrap ((i64.wrap (2000 * d.2.1)) + a.1)) + b.1)) - 1)) (i64.wrap (a.1 + b.1)))))) then 1000000000 else (i64.wrap (o + (i64.wrap (Int.tdiv (i64.wrap ((i64.wrap ((i64.wrap ((i64.wrap (2000 * d.2.1)) + a.1)) + b.1)) - 1)) (i64.wrap (a.1 + b.1)))))), i64.wrap (e + f.1), (E ++ ([(if 1000000000 < (i64.wrap (o + (i64.wrap (Int.tdiv (i64.wrap ((i64.wrap ((i64.wrap ((i64.wrap (2000 * d.2.1)) + a.1)) + b.1)) - 1)) (i64.wrap (a.1 + b.1)))))) then 1000000000 else (i64.wrap (o + (i64.wrap (Int.tdiv (i64.wrap ((i64.wrap ((i64.wrap ((i64.wrap (2000 * d.2.1)) + a.1)) + b.1)) - 1)) (i64.wrap (a.1 + b.1)))))), i64.wrap (e + f.1))] : List (Int × Int))), N, i64.wrap (D + 1), ak, bx), ⟨R, R, R, R, R, R, R, T0⟩, ⟨al, p, k, x, s, t, r, v, w, q⟩, Ns _⟩
 refine Ce (Ke ?_)
 obtain rfl := Sj i
 have an := Sj al
 subst an
 have i := ba
 refine Ke (Ki (Kt (Cn [(11, Vl u E G)] (fun S => ?_))))
 refine Cs (Xu 4 [(162, Vl u E G), (4, Vl u E G), (5, Vi (-1)), (6, Vi 0)] (Xk (Cr (Rr (Rv [Vl u E G, Vi (-1), Vi 0] ⟨R, R, R, T0⟩ ?_)))))
 obtain rfl := Sj i
 have X := k.pk [2, 3] [Bk u, m] R
 have K := Pk (ls := [[j], [n], Bk u, m]) [2, 3] [Bk u, m] R
 have U := x.pk [2] [Bk u] R
 exact ⟨u, G, R, p, X, U, w.sub K⟩
end Go.Proofs.YtfhkfjankgikcaaGreat
