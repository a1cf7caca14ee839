
/- Walks, printed by program: each function returns what the partial function of the same name returns. Conditions: those of each theorem. -/
import Derived.Test.YtfhkfjankgikcaaGreatGT
import Derived.Test.YtfhkfjankgikcaaGreatGbowl
import Derived.Test.YtfhkfjankgikcaaGreatGgen
import Derived.Test.YtfhkfjankgikcaaGreatGretarder
import Derived.Test.YtfhkfjankgikcaaGreatGrunoff
import Derived.Test.YtfhkfjankgikcaaGreatGtopruns
set_option linter.unusedVariables false
set_option linter.unusedSimpArgs false
set_option maxRecDepth 4000
namespace Go.Proofs.YtfhkfjankgikcaaGreat
open Go Go.V Go.Proofs Go.IntKind
def top_TopCouples_L79 (j : ((List Int) × Int)) (a : ((Int × Int) × (List (Int × Int)) × Int × (List Int)) × Int) (f : Int × Int) (g : Int × Int) (c : (List (Int × Int × Int × Int × Int)) × Int) (k : Int × Int) (i : Int × Int) : Option (Step (Int × Int) (Unit ⊕ Unit)) :=
match i with
| (h, e) =>
(if (decide (e < 3)) = true then
((gen_Maker_Run j.1 h a.1.1.1 a.1.1.2 a.1.2.1 a.1.2.2.1 (a.1.2.2.2.set (Int.toNat (i64.wrap (((a.1.2.2.2).length : Int) - 1))) k.1)).bind fun d =>
((runoff_Point c.1 d.1.1 d.1.2.1 d.1.2.2).bind fun b =>
(if (b.2.2 != 0) = true then
some (.done (.inl ()))
else
(if (b.2.1 != (-1)) = true then
some (.done (.inl ()))
else
(if (((b.1).length : Int) != (i64.wrap (((c.1).length : Int) + 1))) = true then
some (.done (.inl ()))
else
((idx b.1 ((c.1).length : Int)).bind fun l =>
(if (decide (l.2 < (i64.wrap (f.1 * f.1)))) = true then
some (.done (.inl ()))
else
((idx b.1 ((c.1).length : Int)).bind fun m =>
(if (decide (m.2 > (i64.wrap (g.1 * g.1)))) = true then
some (.done (.inl ()))
else
some (.next (d.2, i64.wrap (e + 1))))))))))))
else
some (.done (.inr ())))
def top_TopCouples_L12 (i : ((List Int) × Int)) (h : Int × Int × (List Int) × (List Int) × Int) : Option (Step (Int × Int × (List Int) × (List Int) × Int) (Unit ⊕ (Int × Int × (List Int) × (List Int)))) :=
match h with
| (d, e, b, c, f) =>
(if (decide (f > 0)) = true then
((gen_Maker_Pick i.1 d ([80, 142, 262, 400])).bind fun g =>
((bowl_Arrive e b c ([((b).length : Int)]) ([g.1])).bind fun a =>
(if (a.2.2 != 0) = true then
some (.done (.inl ()))
else
some (.next (g.2, a.1.1, a.1.2.1, a.1.2.2, i64.wrap (f - 1))))))
else
some (.done (.inr (d, e, b, c))))
def top_TopCouples (q : List Int) : Option Bool :=
((gen_New q).bind fun b =>
((gen_Maker_Next b.1 b.2 6).bind fun k =>
((loop (top_TopCouples_L12 b) (k.2, 4000, ([] : List Int), ([] : List Int), k.1)).bind fun g => match g with
| (.inl _) => some false
| (.inr (o, p, m, n)) => ((gen_Maker_Pieces b.1 o 3).bind fun c =>
((gen_Maker_Pick b.1 c.2 ([0, 20, 60])).bind fun d =>
(if c.1.length + ([(90, 9000, 0, 0, 30000000), (91, 400000, d.1, 0, 0)] : List (Int × Int × Int × Int × Int)).length ≤ 4294967296 then
((gen_Maker_Motion b.1 d.2 (c.1 ++ ([(90, 9000, 0, 0, 30000000), (91, 400000, d.1, 0, 0)] : List (Int × Int × Int × Int × Int)))).bind fun a =>
((gen_Maker_Pick b.1 a.2 ([300, 600, 900])).bind fun e =>
((gen_Maker_Pick b.1 e.2 ([1200, 1500, 3000])).bind fun f =>
((bowl_Free p m n).bind fun l =>
((bowl_Shorten (c.1 ++ ([(90, 9000, 0, 0, 30000000), (91, 400000, d.1, 0, 0)] : List (Int × Int × Int × Int × Int))) (i64.wrap (100 * l))).bind fun h =>
(if (h.2 != 0) = true then
some false
else
((retarder_Choose h.1 a.1.1.1 a.1.1.2 a.1.2.1 a.1.2.2.1 a.1.2.2.2 e.1 f.1).bind fun i =>
(if (i.2 != 0) = true then
((top_runs).bind fun r =>
some r)
else
((idx a.1.2.2.2 (i64.wrap (((a.1.2.2.2).length : Int) - 1))).bind fun t =>
((bowl_Coupling (c.1 ++ ([(90, 9000, 0, 0, 30000000), (91, 400000, d.1, 0, 0)] : List (Int × Int × Int × Int × Int))) a.1.1.1 a.1.1.2 a.1.2.1 a.1.2.2.1 (a.1.2.2.2.set (Int.toNat (i64.wrap (((a.1.2.2.2).length : Int) - 1))) i.1) (i64.wrap (100 * l))).bind fun j =>
(if (j.2 != 0) = true then
some false
else
(if (decide (j.1.1 < e.1)) = true then
some false
else
(if (decide (j.1.2 > f.1)) = true then
some false
else
((loop (top_TopCouples_L79 b a e f h i) (f.2, 0)).bind fun g => match g with
| (.inl _) => some false
| (.inr _) => ((top_runs).bind fun s =>
some s)))))))))))))))
else none))))))
set_option maxHeartbeats 8000000 in
theorem top_TopCouples_w (cK cL cI dG a7 d) (e : MS a7 [d]) (eK : SlR eI a7 (fl [d]) cK cL cI) (m : top_TopCouples cI = some dG) : CallVC Tryz.prog 3 [Vl cK cI cL] a7 fun aA bI => aA = .bool dG ∧ Ev [] a7 bI := by
 refine Cv hmx Tryz.func3 (by kernel_rfl) R (rs := [.tmp 2]) R (by kernel_rfl) (args := [Vl cK cI cL]) R ?_
 have i : Ev [] a7 a7 := Ev.refl _ _
 refine Cs (Xu 1 [(2, .bool false)] (Xk (Cs (Xu 1 [(22, Vl cK cI cL)] ?_))))
 obtain ⟨bu, A, m⟩ := Bs m
 have Z := gen_New_w cK cL cI _ a7 (fl [d]) (MS.fold (P := []) e) (eK.sub fl1) A
 refine Xc 4 #[] #[] _ _ R R R R Z ?_
 rintro aA eS ⟨a, bC, bD, rfl, dB, ec, dC, l, h⟩
 refine I1 ?_
 have aq : MS a7 ([] ++ [d]) := e.pk [0] _ R
 have a1 : ∀ s ∈ fl [[a], d], s ∈ fl ([[a]] ++ ([] ++ [d])) := Pk [0, 1] _ R
 replace e : MS eS [[a], d] := (MS.call (P := []) (R := [d]) (res := [[a]]) (par := []) aq dB ec dC (NP.init _ _)).pick [some 0, some 1] _ R
 have al : FR a7.heap.size [[a]] := (FR.cons (fun t u => Nat.le_trans i.size (dC.at 0 R t u)) (FR.nil _))
 have i := i.ext dB
 have k := al
 have eL : ∀ s ∈ fl [[a], d], s ∈ fl ([[a]] ++ ([] ++ [(fl [d])])) := fun s A => fl_tot (res := [[a]]) (par := []) (R := [d]) s (a1 s A)
 have h := h.sub eL
 refine Xu 1 [(3, Vp a 0)] (Xk (Cs (Xd (vs := [(0, Vi 4000)]) (.agg #[Vi 4000, Z0, Z0]) R R R (fun _ _ => by kernel_rfl) ?_)))
 refine Xa (z := .agg #[Vi 0, Z0, Z0]) R R (by kernel_rfl) (fun b e1 dq n c4 fj => ?_)
 replace n : e1.heap[b]? = some (.cells #[Vi 0, Z0, Z0] 26 (0, 0)) := n
 refine I1 ?_
 have f := Stp.box (ls := [[a], d]) c4 dq
 have l := c4.box l nn
 have h := h.step f
 have e := e.box c4 dq n
 have k := k.box i.size dq
 have i := i.ext c4
 obtain ⟨db, eC, d6, c5⟩ := Sa [Vi 4000, Z0, Z0] tagg26 n R R R
 refine Ys db _ _ R eC (I1 ?_)
 have f := Stp.ev' (ls := [[b], [a], d]) c5 (Mf 0 R)
 have l := c5.box l (e.apart 1 0 R R R _ mem1)
 have h := h.step f
 have e := e.ev c5
 have i := i.then c5 (fun t u => .inr (k.at 0 R t u))
 have n := d6
 refine Xk (Cq (Cs (Xu 1 [(25, Vp a 0)] ?_)))
 obtain ⟨dw, A, m⟩ := Bs m
 have v : MS db ([[a]] ++ [[b], d]) := e.pk [1, 0, 2] _ R
 have a5 : ∀ s ∈ fl ([[a]] ++ [[b], d]), s ∈ fl [[b], [a], d] := Pk [1, 0, 2] _ R
 have ak : ∀ s ∈ fl ([[a]] ++ [(fl [[b], d])]), s ∈ fl [[b], [a], d] := fun s A => a5 s (Fu s A)
 have Z := gen_Maker_Next_w a bC bD bu.1 bu.2 6 _ db (fl [[b], d]) (v.fold (P := [[a]])) (h.sub ak) l A
 refine Xc 5 #[] #[] _ _ R R R R Z ?_
 rintro aA fo ⟨rfl, c2, ej⟩
 refine I1 ?_
 have aq : MS db ([[a]] ++ [[b], d]) := e.pk [1, 0, 2] _ R
 have ay : ∀ s ∈ fl ([[a]] ++ [[b], d]), s ∈ fl [[b], [a], d] := Pk [1, 0, 2] _ R
 have a6 := Stp.call (LS := [[b], [a], d]) (res := []) (par := [[a]]) (R := [[b], d]) c2 (fun t u => ay t (fl_left' (P := [[a]]) t u)) (FR.nil _) (NP.init _ _) (fun s A => ay s (fl_right' (P := [[a]]) s A))
 have a1 : ∀ s ∈ fl [[b], [a], d], s ∈ fl ([] ++ ([[a]] ++ [[b], d])) := Pk [1, 0, 2] _ R
 have f := a6.res a1
 have h := h.step f
 have n := c2.box n ((MS.outs (P := [[a]]) aq 0 R) _ mem1)
 have e := e.ev c2
 have a2 : ∀ t ∈ fl [[a]], a7.heap.size ≤ t := FR.mem (ls := [[a]]) (k.pk [1] _ R)
 have i := i.then c2 (fun t u => .inr (a2 t u))
 have l := ej
 refine Xu 1 [(5, Vi dw.1)] (Xk (Cb ?_))
 have v := e.pk [1, 0, 2] [[a], [b], d] R
 have o := Pk (ls := [[b], [a], d]) [1, 0, 2] [[a], [b], d] R
 have h := h.sub o
 have e := v
 have k := k.pk [1, 0] [[a], [b]] R
 obtain ⟨dU, dh, bs⟩ := Bs m
 obtain ⟨bj, dh⟩ := Lo dh
 refine Cl (Lr hmx (σ := Nat × Int × Int × (List Int) × (List Int) × Int × Option Addr × Nat × Option Addr × Nat) (fun b2 => match b2 with | (_, bN, bg, O, bd, Q, ba, bb, be, bf) => [(3, Vp a 0), (4, Vp b 0), (5, Vi Q)]) (fun b2 bI => match b2 with | (dt, bN, bg, O, bd, Q, ba, bb, be, bf) => loopN (top_TopCouples_L12 bu) dt (bN, bg, O, bd, Q) = some dU ∧ Ev [] a7 bI ∧ MS bI [[a], [b], d] ∧ FR a7.heap.size [[a], [b]] ∧ SlR eI bI (fl [[a], [b], d]) bC bD bu.1 ∧ bI.heap[a]? = some (.cells #[Vl bC bu.1 bD, Vi bN] 61 (0, 0)) ∧ SlR eI bI (fl [[a], [b], d]) ba bb O ∧ SlR eI bI (fl [[a], [b], d]) be bf bd ∧ bI.heap[b]? = some (.cells #[Vi bg, Vl ba O bb, Vl be bd bf] 26 (0, 0))) (fun b2 => b2.1) (bj, dw.2, 4000, ([] : List Int), ([] : List Int), dw.1, none, 0, none, 0) ⟨R, R, R, T0⟩ ⟨dh, i, e, k, h, l, (SlR.empty _ _ _), (SlR.empty _ _ _), n⟩ ?_)
 rintro ⟨bj, bN, bg, O, bd, Q, ba, bb, be, bf⟩ aS ch ⟨az, i, e, k, h, l, w, x, n⟩
 rcases bj with _ | bj
 · exact (Lz az).elim
 obtain ⟨fm, m, az⟩ := Bs az
 refine Cq (Cs (Xu 2 [(27, Vi Q), (28, Bd (Q > 0))] (Xk (Cn [(3, Vp a 0), (4, Vp b 0), (5, Vi Q), (28, Bd (Q > 0))] (fun aS => ?_)))))
 refine Ci (decide (Q > 0)) R m (fun m => ?_) (fun m => ?_)
 · refine Ck (Kt (Cq (Cb (Cq (c_drawnp [a] [(0, false), (1, false), (2, false), (3, false), (5, false)] (.alt 4 false (opsThen [] (.alt 6 false (opsThen [] (.alt 7 false (opsThen [] (.alt 8 false (opsThen [] (.alt 9 false (opsThen [(10, false), (11, false), (12, false), (13, false), (14, false), (15, true), (16, true), (17, true)] .stop) (.alt 14 false (opsThen [(9, false), (10, false), (11, false), (12, false), (13, false), (15, true), (16, true), (17, true)] .stop) .none_))) (.alt 14 false (opsThen [(8, false), (9, false), (10, false), (11, false), (12, false), (13, false), (15, true), (16, true), (17, true)] .stop) .none_))) (.alt 14 false (opsThen [(7, false), (8, false), (9, false), (10, false), (11, false), (12, false), (13, false), (15, true), (16, true), (17, true)] .stop) .none_))) (.alt 14 false (opsThen [(6, false), (7, false), (8, false), (9, false), (10, false), (11, false), (12, false), (13, false), (15, true), (16, true), (17, true)] .stop) .none_))) (.alt 6 false (opsThen [] (.alt 4 false (opsThen [] (.alt 7 false (opsThen [] (.alt 8 false (opsThen [] (.alt 9 false (opsThen [(10, false), (11, false), (12, false), (13, false), (14, false), (15, true), (16, true), (17, true)] .stop) (.alt 14 false (opsThen [(9, false), (10, false), (11, false), (12, false), (13, false), (15, true), (16, true), (17, true)] .stop) .none_))) (.alt 14 false (opsThen [(8, false), (9, false), (10, false), (11, false), (12, false), (13, false), (15, true), (16, true), (17, true)] .stop) .none_))) (.alt 14 false (opsThen [(7, false), (8, false), (9, false), (10, false), (11, false), (12, false), (13, false), (15, true), (16, true), (17, true)] .stop) .none_))) (.alt 7 false (opsThen [] (.alt 4 false (opsThen [] (.alt 8 false (opsThen [] (.alt 9 false (opsThen [(10, false), (11, false), (12, false), (13, false), (14, false), (15, true), (16, true), (17, true)] .stop) (.alt 14 false (opsThen [(9, false), (10, false), (11, false), (12, false), (13, false), (15, true), (16, true), (17, true)] .stop) .none_))) (.alt 14 false (opsThen [(8, false), (9, false), (10, false), (11, false), (12, false), (13, false), (15, true), (16, true), (17, true)] .stop) .none_))) (.alt 8 false (opsThen [] (.alt 4 false (opsThen [] (.alt 9 false (opsThen [(10, false), (11, false), (12, false), (13, false), (14, false), (15, true), (16, true), (17, true)] .stop) (.alt 14 false (opsThen [(9, false), (10, false), (11, false), (12, false), (13, false), (15, true), (16, true), (17, true)] .stop) .none_))) (.alt 14 false (opsThen [(4, false), (9, false), (10, false), (11, false), (12, false), (13, false), (15, true), (16, true), (17, true)] .stop) .none_))) (.alt 14 false (opsThen [] (.alt 4 false (opsThen [(8, false), (9, false), (10, false), (11, false), (12, false), (13, false), (15, true), (16, true), (17, true)] .stop) (.alt 8 false (opsThen [(4, false), (9, false), (10, false), (11, false), (12, false), (13, false), (15, true), (16, true), (17, true)] .stop) .none_))) .none_)))) (.alt 14 false (opsThen [] (.alt 4 false (opsThen [(7, false), (8, false), (9, false), (10, false), (11, false), (12, false), (13, false), (15, true), (16, true), (17, true)] .stop) (.alt 7 false (opsThen [] (.alt 4 false (opsThen [(8, false), (9, false), (10, false), (11, false), (12, false), (13, false), (15, true), (16, true), (17, true)] .stop) (.alt 8 false (opsThen [(4, false), (9, false), (10, false), (11, false), (12, false), (13, false), (15, true), (16, true), (17, true)] .stop) .none_))) .none_))) .none_)))) (.alt 14 false (opsThen [] (.alt 4 false (opsThen [(6, false), (7, false), (8, false), (9, false), (10, false), (11, false), (12, false), (13, false), (15, true), (16, true), (17, true)] .stop) (.alt 6 false (opsThen [] (.alt 4 false (opsThen [(7, false), (8, false), (9, false), (10, false), (11, false), (12, false), (13, false), (15, true), (16, true), (17, true)] .stop) (.alt 7 false (opsThen [] (.alt 4 false (opsThen [(8, false), (9, false), (10, false), (11, false), (12, false), (13, false), (15, true), (16, true), (17, true)] .stop) (.alt 8 false (opsThen [(4, false), (9, false), (10, false), (11, false), (12, false), (13, false), (15, true), (16, true), (17, true)] .stop) .none_))) .none_))) .none_))) .none_))) _ (by kernel_rfl) R ?_)))))
   have f := Stp.ext (ls := [[a], [b], d]) (Ev.drew ch)
   have l := (Ev.drew ch).box l nn
   have h := h.step f
   have n := (Ev.drew ch).box n nn
   have w := w.step f
   have x := x.step f
   have e := e.ev (Ev.drew ch)
   have i := i.ext (Ev.drew ch)
   refine Yl _ _ R (Ra 0 [Vi bg, Vl ba O bb, Vl be bd bf] tagg26 n ((e.apart 1 0 R R R) _ mem1) R) (Yf (Vp b 0) (Vp b 1) R (Rf tfld26_1 _ _) (Yl _ (Vl ba O bb) R (Rb tcell22 n ((e.apart 1 0 R R R) _ mem1) 1 _ R) (Xn (vs := [Vl ba O bb]) (Vi ((O).length : Int)) R R R (Rl tsl22 _ _ _ _ _) (Xu 1 [(37, Vp a 0)] (Xe R (t_alt _ R ?_ ?_))))))
   · refine Xb (vs := [(0, Vi ((O).length : Int))]) #[Vi ((O).length : Int)] 3 R R R (by kernel_rfl) (fun D cg cA ax bG dF => ?_)
     refine ⟨.inr (bG.nil), ?_⟩
     have ab := e
     have f := Stp.ext (ls := [[a], [b], d]) bG
     have l := bG.box l nn
     have h := h.step f
     have n := bG.box n nn
     have w := w.step f
     have x := x.step f
     have e := e.ev bG
     have i := i.ext bG
     have aK : SlR eI cg (fl [[a], [b], d]) (Ad D 0) 1 ([((O).length : Int)]) := ro_of_box ab cA ax R R (cells_at (cs := [Vi ((O).length : Int)]) (CellsOf.cons (c := [Vi ((O).length : Int)]) R CellsOf.nil))
     refine Xe R (t_alt _ R ?_ ?_)
     · refine Xb (vs := [(0, Vi 80), (1, Vi 142), (2, Vi 262), (3, Vi 400)]) #[Vi 80, Vi 142, Vi 262, Vi 400] 3 R R R (by kernel_rfl) (fun B bB bS au aL cX => ?_)
       refine ⟨.inr (aL.nil), ?_⟩
       have ab := e
       have f := Stp.ext (ls := [[a], [b], d]) aL
       have l := aL.box l nn
       have h := h.step f
       have n := aL.box n nn
       have w := w.step f
       have x := x.step f
       have aK := aK.step f
       have e := e.ev aL
       have i := i.ext aL
       have a0 : SlR eI bB (fl [[a], [b], d]) (Ad B 0) 4 ([80, 142, 262, 400]) := ro_of_box ab bS au R R (cells_at (cs := [Vi 80, Vi 142, Vi 262, Vi 400]) (CellsOf.cons (c := [Vi 80]) R (CellsOf.cons (c := [Vi 142]) R (CellsOf.cons (c := [Vi 262]) R (CellsOf.cons (c := [Vi 400]) R CellsOf.nil)))))
       refine Xe R (t_alt _ R ?_ ?_)
       · obtain ⟨aj, A, m⟩ := Bs m
         have v : MS bB ([[a]] ++ [[b], d]) := e.pk [0, 1, 2] _ R
         have a5 : ∀ s ∈ fl ([[a]] ++ [[b], d]), s ∈ fl [[a], [b], d] := Pk [0, 1, 2] _ R
         have ak : ∀ s ∈ fl ([[a]] ++ [(fl [[b], d])]), s ∈ fl [[a], [b], d] := fun s A => a5 s (Fu s A)
         have Z := gen_Maker_Pick_w a bC bD bu.1 bN (Ad B 0) 4 ([80, 142, 262, 400]) _ bB (fl [[b], d]) (v.fold (P := [[a]])) (h.sub ak) l (a0.sub ak) A
         refine Xc 7 #[] #[] _ _ R R R R Z ?_
         rintro aA du ⟨rfl, bt, cz⟩
         refine ⟨.inr bt, ?_⟩
         have aq : MS bB ([[a]] ++ [[b], d]) := e.pk [0, 1, 2] _ R
         have ay : ∀ s ∈ fl ([[a]] ++ [[b], d]), s ∈ fl [[a], [b], d] := Pk [0, 1, 2] _ R
         have a6 := Stp.call (LS := [[a], [b], d]) (res := []) (par := [[a]]) (R := [[b], d]) bt (fun t u => ay t (fl_left' (P := [[a]]) t u)) (FR.nil _) (NP.init _ _) (fun s A => ay s (fl_right' (P := [[a]]) s A))
         have a1 : ∀ s ∈ fl [[a], [b], d], s ∈ fl ([] ++ ([[a]] ++ [[b], d])) := Pk [0, 1, 2] _ R
         have f := a6.res a1
         have h := h.step f
         have n := bt.box n ((MS.outs (P := [[a]]) aq 0 R) _ mem1)
         have w := w.step f
         have x := x.step f
         have aK := aK.step f
         have e := e.ev bt
         have a2 : ∀ t ∈ fl [[a]], a7.heap.size ≤ t := FR.mem (ls := [[a]]) (k.pk [0] _ R)
         have i := i.then bt (fun t u => .inr (a2 t u))
         have l := cz
         refine Xe R (t_alt _ R ?_ ?_)
         · refine Xb (vs := [(0, Vi aj.1)]) #[Vi aj.1] 3 R R R (by kernel_rfl) (fun L bi a4 ag Y bZ => ?_)
           refine ⟨.inr (Y.nil), ?_⟩
           have ab := e
           have f := Stp.ext (ls := [[a], [b], d]) Y
           have l := Y.box l nn
           have h := h.step f
           have n := Y.box n nn
           have w := w.step f
           have x := x.step f
           have aK := aK.step f
           have e := e.ev Y
           have i := i.ext Y
           have aO : SlR eI bi (fl [[a], [b], d]) (Ad L 0) 1 ([aj.1]) := ro_of_box ab a4 ag R R (cells_at (cs := [Vi aj.1]) (CellsOf.cons (c := [Vi aj.1]) R CellsOf.nil))
           refine Xe R (t_alt _ R ?_ ?_)
           · obtain ⟨U, A, m⟩ := Bs m
             have Z := bowl_Arrive_w bg ba bb O be bf bd (Ad D 0) 1 ([((O).length : Int)]) (Ad L 0) 1 ([aj.1]) _ bi (fl [[a], [b], d]) (MS.fold (P := []) e) (w.sub fl1) (x.sub fl1) (aK.sub fl1) (aO.sub fl1) A
             refine Xc 6 #[] #[] _ _ R R R R Z ?_
             rintro aA dv ⟨an, bk, ac, bm, rfl, bo, cy, bQ, ah, ai⟩
             refine ⟨.inr (bo.nil), ?_⟩
             have f := Stp.call0 [[a], [b], d] [Bk an, Bk ac] [Bk an, Bk ac, [a], [b], d] bo bQ R
             have l := bo.box l nn
             have h := h.step f
             have n := bo.box n nn
             have e := MS.call0 [Bk an, Bk ac] [Bk an, Bk ac, [a], [b], d] e bo cy bQ R
             have al := FR.call0 [Bk an, Bk ac, [a], [b]] i.size bQ k R
             have i := i.ext bo
             have k := al
             have ah := OwnS.plain (M' := fl [Bk an, Bk ac, [a], [b], d]) (Pi _) ah
             have ai := OwnS.plain (M' := fl [Bk an, Bk ac, [a], [b], d]) (Pi _) ai
             have v := e.pk [1, 2, 3, 4] [Bk ac, [a], [b], d] R
             have o := Pk (ls := [Bk an, Bk ac, [a], [b], d]) [1, 2, 3, 4] [Bk ac, [a], [b], d] R
             have h := h.sub o
             have ah := ah.ro o (pick_out e 0 R [some 1, some 2, some 3, some 4] [Bk ac, [a], [b], d] R R)
             have ai := ai.sub o
             have e := v
             have k := k.pk [1, 2, 3] [Bk ac, [a], [b]] R
             have v := e.pk [1, 2, 3] [[a], [b], d] R
             have o := Pk (ls := [Bk ac, [a], [b], d]) [1, 2, 3] [[a], [b], d] R
             have h := h.sub o
             have ah := ah.sub o
             have ai := ai.ro o (pick_out e 0 R [some 1, some 2, some 3] [[a], [b], d] R R)
             have e := v
             have k := k.pk [1, 2] [[a], [b]] R
             refine Xu 4 [(31, .tuple #[.agg #[Vi U.1.1, Vl an U.1.2.1 bk, Vl ac U.1.2.2 bm], Vi U.2.1, Vi U.2.2]), (42, .agg #[Vi U.1.1, Vl an U.1.2.1 bk, Vl ac U.1.2.2 bm]), (43, Vi U.2.1), (44, Vi U.2.2)] (Xa (z := .agg #[Vi 0, Z0, Z0]) R R (by kernel_rfl) (fun bz cB bU bn bp ds => ?_))
             replace bn : cB.heap[bz]? = some (.cells #[Vi 0, Z0, Z0] 26 (0, 0)) := bn
             refine ⟨.inr (bp.nil), ?_⟩
             have f := Stp.box (ls := [[a], [b], d]) bp bU
             have l := bp.box l nn
             have h := h.step f
             have n := bp.box n nn
             have ah := ah.step f
             have ai := ai.step f
             have e := e.box bp bU bn
             have k := k.box i.size bU
             have i := i.ext bp
             obtain ⟨aG, aE, aB, G⟩ := Sa [Vi U.1.1, Vl an U.1.2.1 bk, Vl ac U.1.2.2 bm] tagg26 bn R R R
             refine Ys aG _ _ R aE (I1 ?_)
             have f := Stp.ev' (ls := [[bz], [a], [b], d]) G (Mf 0 R)
             have l := G.box l (e.apart 1 0 R R R _ mem1)
             have h := h.step f
             have n := G.box n (e.apart 2 0 R R R _ mem1)
             have ah := ah.step f
             have ai := ai.step f
             have e := e.ev G
             have i := i.then G (fun t u => .inr (k.at 0 R t u))
             have bn := aB
             refine Xu 2 [(7, Vi U.2.1), (8, Vi U.2.2)] (Xe R (t_stop (Kt (Cn [(3, Vp a 0), (4, Vp b 0), (5, Vi Q), (6, Vp bz 0), (8, Vi U.2.2)] (fun aS => ?_)))))
             refine Cq (Cs (Xu 2 [(45, Vi U.2.2), (46, .bool (U.2.2 != 0))] (Xk (Ci (U.2.2 != 0) R m (fun m => ?_) (fun m => ?_)))))
             · refine Cs (Xu 1 [(2, .bool false)] (Xk (Cr (Kr (Kb (Kr ?_))))))
               obtain rfl := Sj m
               have am := Sj az
               subst am
               have m := bs
               refine Kr (Kb (Kr (Rr (Rv [.bool false] ⟨R, T0⟩ ?_))))
               obtain rfl := Sj m
               exact ⟨R, i⟩
             refine Ck (Kt (Cp (Yl _ _ R (Ra 0 [Vi U.1.1, Vl an U.1.2.1 bk, Vl ac U.1.2.2 bm] tagg26 bn nn R) ?_)))
             obtain ⟨aH, aF, aC, S⟩ := Sa [Vi U.1.1, Vl an U.1.2.1 bk, Vl ac U.1.2.2 bm] tagg26 n R R R
             refine Ys aH _ _ R aF (I1 ?_)
             have f := Stp.ev' (ls := [[bz], [a], [b], d]) S (Mf 2 R)
             have l := S.box l (e.apart 1 2 R R R _ mem1)
             have h := h.step f
             have ah := ah.step f
             have ai := ai.step f
             have e := e.ev S
             have i := i.then S (fun t u => .inr (k.at 2 R t u))
             have n := aC
             refine Xe R (Kl (Kt (Cp (Xu 3 [(29, Vi Q), (30, Vi (i64.wrap (Q - 1))), (5, Vi (i64.wrap (Q - 1)))] (Xe R ?_)))))
             obtain rfl := Sj m
             have v := e.pk [1, 2, 3] [[a], [b], d] R
             have o := Pk (ls := [[bz], [a], [b], d]) [1, 2, 3] [[a], [b], d] R
             have h := h.sub o
             have ah := ah.sub o
             have ai := ai.sub o
             have e := v
             have k := k.pk [1, 2] [[a], [b]] R
             exact Kt ⟨(bj, aj.2, U.1.1, U.1.2.1, U.1.2.2, i64.wrap (Q - 1), an, bk, ac, bm), ⟨R, R, R, T0⟩, ⟨az, i, e, k, h, l, ah, ai, n⟩, Ns _⟩
           refine t_alt _ R ?_ ?_
           · refine Xa (z := .agg #[Vi 0, Z0, Z0]) R R (by kernel_rfl) (fun H ap aD ae E bH => ?_)
             replace ae : ap.heap[H]? = some (.cells #[Vi 0, Z0, Z0] 26 (0, 0)) := ae
             refine ⟨.inr (E.nil), ?_⟩
             have f := Stp.box (ls := [[a], [b], d]) E aD
             have l := E.box l nn
             have h := h.step f
             have n := E.box n nn
             have w := w.step f
             have x := x.step f
             have aK := aK.step f
             have aO := aO.step f
             have e := e.box E aD ae
             have k := k.box i.size aD
             have i := i.ext E
             obtain ⟨g, A, m⟩ := Bs m
             have Z := bowl_Arrive_w bg ba bb O be bf bd (Ad D 0) 1 ([((O).length : Int)]) (Ad L 0) 1 ([aj.1]) _ ap (fl [[H], [a], [b], d]) (MS.fold (P := []) e) (w.sub fl1) (x.sub fl1) (aK.sub fl1) (aO.sub fl1) A
             refine Xc 6 #[] #[] _ _ R R R R Z ?_
             rintro aA bJ ⟨p, I, j, J, rfl, C, aY, ad, q, r⟩
             refine ⟨.inr (C.nil), ?_⟩
             have f := Stp.call0 [[H], [a], [b], d] [Bk p, Bk j] [Bk p, Bk j, [H], [a], [b], d] C ad R
             have l := C.box l nn
             have h := h.step f
             have n := C.box n nn
             have ae := C.box ae nn
             have e := MS.call0 [Bk p, Bk j] [Bk p, Bk j, [H], [a], [b], d] e C aY ad R
             have al := FR.call0 [Bk p, Bk j, [H], [a], [b]] i.size ad k R
             have i := i.ext C
             have k := al
             have q := OwnS.plain (M' := fl [Bk p, Bk j, [H], [a], [b], d]) (Pi _) q
             have r := OwnS.plain (M' := fl [Bk p, Bk j, [H], [a], [b], d]) (Pi _) r
             have v := e.pk [1, 2, 3, 4, 5] [Bk j, [H], [a], [b], d] R
             have o := Pk (ls := [Bk p, Bk j, [H], [a], [b], d]) [1, 2, 3, 4, 5] [Bk j, [H], [a], [b], d] R
             have h := h.sub o
             have q := q.ro o (pick_out e 0 R [some 1, some 2, some 3, some 4, some 5] [Bk j, [H], [a], [b], d] R R)
             have r := r.sub o
             have e := v
             have k := k.pk [1, 2, 3, 4] [Bk j, [H], [a], [b]] R
             have v := e.pk [1, 2, 3, 4] [[H], [a], [b], d] R
             have o := Pk (ls := [Bk j, [H], [a], [b], d]) [1, 2, 3, 4] [[H], [a], [b], d] R
             have h := h.sub o
             have q := q.sub o
             have r := r.ro o (pick_out e 0 R [some 1, some 2, some 3, some 4] [[H], [a], [b], d] R R)
             have e := v
             have k := k.pk [1, 2, 3] [[H], [a], [b]] R
             refine Xu 4 [(31, .tuple #[.agg #[Vi g.1.1, Vl p g.1.2.1 I, Vl j g.1.2.2 J], Vi g.2.1, Vi g.2.2]), (42, .agg #[Vi g.1.1, Vl p g.1.2.1 I, Vl j g.1.2.2 J]), (43, Vi g.2.1), (44, Vi g.2.2)] ?_
             obtain ⟨aG, aE, aB, G⟩ := Sa [Vi g.1.1, Vl p g.1.2.1 I, Vl j g.1.2.2 J] tagg26 ae R R R
             refine Ys aG _ _ R aE (I1 ?_)
             have f := Stp.ev' (ls := [[H], [a], [b], d]) G (Mf 0 R)
             have l := G.box l (e.apart 1 0 R R R _ mem1)
             have h := h.step f
             have n := G.box n (e.apart 2 0 R R R _ mem1)
             have q := q.step f
             have r := r.step f
             have e := e.ev G
             have i := i.then G (fun t u => .inr (k.at 0 R t u))
             have ae := aB
             refine Xu 2 [(7, Vi g.2.1), (8, Vi g.2.2)] (Xe R (t_stop (Kt (Cn [(3, Vp a 0), (4, Vp b 0), (5, Vi Q), (6, Vp H 0), (8, Vi g.2.2)] (fun aS => ?_)))))
             refine Cq (Cs (Xu 2 [(45, Vi g.2.2), (46, .bool (g.2.2 != 0))] (Xk (Ci (g.2.2 != 0) R m (fun m => ?_) (fun m => ?_)))))
             · refine Cs (Xu 1 [(2, .bool false)] (Xk (Cr (Kr (Kb (Kr ?_))))))
               obtain rfl := Sj m
               have am := Sj az
               subst am
               have m := bs
               refine Kr (Kb (Kr (Rr (Rv [.bool false] ⟨R, T0⟩ ?_))))
               obtain rfl := Sj m
               exact ⟨R, i⟩
             refine Ck (Kt (Cp (Yl _ _ R (Ra 0 [Vi g.1.1, Vl p g.1.2.1 I, Vl j g.1.2.2 J] tagg26 ae nn R) ?_)))
             obtain ⟨aH, aF, aC, S⟩ := Sa [Vi g.1.1, Vl p g.1.2.1 I, Vl j g.1.2.2 J] tagg26 n R R R
             refine Ys aH _ _ R aF (I1 ?_)
             have f := Stp.ev' (ls := [[H], [a], [b], d]) S (Mf 2 R)
             have l := S.box l (e.apart 1 2 R R R _ mem1)
             have h := h.step f
             have q := q.step f
             have r := r.step f
             have e := e.ev S
             have i := i.then S (fun t u => .inr (k.at 2 R t u))
             have n := aC
             refine Xe R (Kl (Kt (Cp (Xu 3 [(29, Vi Q), (30, Vi (i64.wrap (Q - 1))), (5, Vi (i64.wrap (Q - 1)))] (Xe R ?_)))))
             obtain rfl := Sj m
             have v := e.pk [1, 2, 3] [[a], [b], d] R
             have o := Pk (ls := [[H], [a], [b], d]) [1, 2, 3] [[a], [b], d] R
             have h := h.sub o
             have q := q.sub o
             have r := r.sub o
             have e := v
             have k := k.pk [1, 2] [[a], [b]] R
             exact Kt ⟨(bj, aj.2, g.1.1, g.1.2.1, g.1.2.2, i64.wrap (Q - 1), p, I, j, J), ⟨R, R, R, T0⟩, ⟨az, i, e, k, h, l, q, r, n⟩, Ns _⟩
           exact t_none
         refine t_alt _ R ?_ ?_
         · refine Xa (z := .agg #[Vi 0, Z0, Z0]) R R (by kernel_rfl) (fun L bi a4 ag Y bZ => ?_)
           replace ag : bi.heap[L]? = some (.cells #[Vi 0, Z0, Z0] 26 (0, 0)) := ag
           refine ⟨.inr (Y.nil), ?_⟩
           have f := Stp.box (ls := [[a], [b], d]) Y a4
           have l := Y.box l nn
           have h := h.step f
           have n := Y.box n nn
           have w := w.step f
           have x := x.step f
           have aK := aK.step f
           have e := e.box Y a4 ag
           have k := k.box i.size a4
           have i := i.ext Y
           refine Xb (vs := [(0, Vi aj.1)]) #[Vi aj.1] 3 R R R (by kernel_rfl) (fun H ap aD ae E bH => ?_)
           refine ⟨.inr (E.nil), ?_⟩
           have ab := e
           have f := Stp.ext (ls := [[L], [a], [b], d]) E
           have l := E.box l nn
           have h := h.step f
           have n := E.box n nn
           have w := w.step f
           have x := x.step f
           have aK := aK.step f
           have ag := E.box ag nn
           have e := e.ev E
           have i := i.ext E
           have bh : SlR eI ap (fl [[L], [a], [b], d]) (Ad H 0) 1 ([aj.1]) := ro_of_box ab aD ae R R (cells_at (cs := [Vi aj.1]) (CellsOf.cons (c := [Vi aj.1]) R CellsOf.nil))
           obtain ⟨g, A, m⟩ := Bs m
           have Z := bowl_Arrive_w bg ba bb O be bf bd (Ad D 0) 1 ([((O).length : Int)]) (Ad H 0) 1 ([aj.1]) _ ap (fl [[L], [a], [b], d]) (MS.fold (P := []) e) (w.sub fl1) (x.sub fl1) (aK.sub fl1) (bh.sub fl1) A
           refine Xc 6 #[] #[] _ _ R R R R Z ?_
           rintro aA bJ ⟨p, I, j, J, rfl, C, aY, ad, q, r⟩
           refine ⟨.inr (C.nil), ?_⟩
           have f := Stp.call0 [[L], [a], [b], d] [Bk p, Bk j] [Bk p, Bk j, [L], [a], [b], d] C ad R
           have l := C.box l nn
           have h := h.step f
           have n := C.box n nn
           have ag := C.box ag nn
           have e := MS.call0 [Bk p, Bk j] [Bk p, Bk j, [L], [a], [b], d] e C aY ad R
           have al := FR.call0 [Bk p, Bk j, [L], [a], [b]] i.size ad k R
           have i := i.ext C
           have k := al
           have q := OwnS.plain (M' := fl [Bk p, Bk j, [L], [a], [b], d]) (Pi _) q
           have r := OwnS.plain (M' := fl [Bk p, Bk j, [L], [a], [b], d]) (Pi _) r
           have v := e.pk [1, 2, 3, 4, 5] [Bk j, [L], [a], [b], d] R
           have o := Pk (ls := [Bk p, Bk j, [L], [a], [b], d]) [1, 2, 3, 4, 5] [Bk j, [L], [a], [b], d] R
           have h := h.sub o
           have q := q.ro o (pick_out e 0 R [some 1, some 2, some 3, some 4, some 5] [Bk j, [L], [a], [b], d] R R)
           have r := r.sub o
           have e := v
           have k := k.pk [1, 2, 3, 4] [Bk j, [L], [a], [b]] R
           have v := e.pk [1, 2, 3, 4] [[L], [a], [b], d] R
           have o := Pk (ls := [Bk j, [L], [a], [b], d]) [1, 2, 3, 4] [[L], [a], [b], d] R
           have h := h.sub o
           have q := q.sub o
           have r := r.ro o (pick_out e 0 R [some 1, some 2, some 3, some 4] [[L], [a], [b], d] R R)
           have e := v
           have k := k.pk [1, 2, 3] [[L], [a], [b]] R
           refine Xu 4 [(31, .tuple #[.agg #[Vi g.1.1, Vl p g.1.2.1 I, Vl j g.1.2.2 J], Vi g.2.1, Vi g.2.2]), (42, .agg #[Vi g.1.1, Vl p g.1.2.1 I, Vl j g.1.2.2 J]), (43, Vi g.2.1), (44, Vi g.2.2)] ?_
           obtain ⟨aG, aE, aB, G⟩ := Sa [Vi g.1.1, Vl p g.1.2.1 I, Vl j g.1.2.2 J] tagg26 ag R R R
           refine Ys aG _ _ R aE (I1 ?_)
           have f := Stp.ev' (ls := [[L], [a], [b], d]) G (Mf 0 R)
           have l := G.box l (e.apart 1 0 R R R _ mem1)
           have h := h.step f
           have n := G.box n (e.apart 2 0 R R R _ mem1)
           have q := q.step f
           have r := r.step f
           have e := e.ev G
           have i := i.then G (fun t u => .inr (k.at 0 R t u))
           have ag := aB
           refine Xu 2 [(7, Vi g.2.1), (8, Vi g.2.2)] (Xe R (t_stop (Kt (Cn [(3, Vp a 0), (4, Vp b 0), (5, Vi Q), (6, Vp L 0), (8, Vi g.2.2)] (fun aS => ?_)))))
           refine Cq (Cs (Xu 2 [(45, Vi g.2.2), (46, .bool (g.2.2 != 0))] (Xk (Ci (g.2.2 != 0) R m (fun m => ?_) (fun m => ?_)))))
           · refine Cs (Xu 1 [(2, .bool false)] (Xk (Cr (Kr (Kb (Kr ?_))))))
             obtain rfl := Sj m
             have am := Sj az
             subst am
             have m := bs
             refine Kr (Kb (Kr (Rr (Rv [.bool false] ⟨R, T0⟩ ?_))))
             obtain rfl := Sj m
             exact ⟨R, i⟩
           refine Ck (Kt (Cp (Yl _ _ R (Ra 0 [Vi g.1.1, Vl p g.1.2.1 I, Vl j g.1.2.2 J] tagg26 ag nn R) ?_)))
           obtain ⟨aH, aF, aC, S⟩ := Sa [Vi g.1.1, Vl p g.1.2.1 I, Vl j g.1.2.2 J] tagg26 n R R R
           refine Ys aH _ _ R aF (I1 ?_)
           have f := Stp.ev' (ls := [[L], [a], [b], d]) S (Mf 2 R)
           have l := S.box l (e.apart 1 2 R R R _ mem1)
           have h := h.step f
           have q := q.step f
           have r := r.step f
           have e := e.ev S
           have i := i.then S (fun t u => .inr (k.at 2 R t u))
           have n := aC
           refine Xe R (Kl (Kt (Cp (Xu 3 [(29, Vi Q), (30, Vi (i64.wrap (Q - 1))), (5, Vi (i64.wrap (Q - 1)))] (Xe R ?_)))))
           obtain rfl := Sj m
           have v := e.pk [1, 2, 3] [[a], [b], d] R
           have o := Pk (ls := [[L], [a], [b], d]) [1, 2, 3] [[a], [b], d] R
           have h := h.sub o
           have q := q.sub o
           have r := r.sub o
           have e := v
           have k := k.pk [1, 2] [[a], [b]] R
           exact Kt ⟨(bj, aj.2, g.1.1, g.1.2.1, g.1.2.2, i64.wrap (Q - 1), p, I, j, J), ⟨R, R, R, T0⟩, ⟨az, i, e, k, h, l, q, r, n⟩, Ns _⟩
         exact t_none
       refine t_alt _ R ?_ ?_
       · refine Xa (z := .agg #[Vi 0, Z0, Z0]) R R (by kernel_rfl) (fun F a8 bA ao af cf => ?_)
         replace ao : a8.heap[F]? = some (.cells #[Vi 0, Z0, Z0] 26 (0, 0)) := ao
         refine ⟨.inr (af.nil), ?_⟩
         have f := Stp.box (ls := [[a], [b], d]) af bA
         have l := af.box l nn
         have h := h.step f
         have n := af.box n nn
         have w := w.step f
         have x := x.step f
         have aK := aK.step f
         have a0 := a0.step f
         have e := e.box af bA ao
         have k := k.box i.size bA
         have i := i.ext af
         obtain ⟨aI, A, m⟩ := Bs m
         have v : MS a8 ([[a]] ++ [[F], [b], d]) := e.pk [1, 0, 2, 3] _ R
         have a5 : ∀ s ∈ fl ([[a]] ++ [[F], [b], d]), s ∈ fl [[F], [a], [b], d] := Pk [1, 0, 2, 3] _ R
         have ak : ∀ s ∈ fl ([[a]] ++ [(fl [[F], [b], d])]), s ∈ fl [[F], [a], [b], d] := fun s A => a5 s (Fu s A)
         have Z := gen_Maker_Pick_w a bC bD bu.1 bN (Ad B 0) 4 ([80, 142, 262, 400]) _ a8 (fl [[F], [b], d]) (v.fold (P := [[a]])) (h.sub ak) l (a0.sub ak) A
         refine Xc 7 #[] #[] _ _ R R R R Z ?_
         rintro aA cZ ⟨rfl, aU, b1⟩
         refine ⟨.inr aU, ?_⟩
         have aq : MS a8 ([[a]] ++ [[F], [b], d]) := e.pk [1, 0, 2, 3] _ R
         have ay : ∀ s ∈ fl ([[a]] ++ [[F], [b], d]), s ∈ fl [[F], [a], [b], d] := Pk [1, 0, 2, 3] _ R
         have a6 := Stp.call (LS := [[F], [a], [b], d]) (res := []) (par := [[a]]) (R := [[F], [b], d]) aU (fun t u => ay t (fl_left' (P := [[a]]) t u)) (FR.nil _) (NP.init _ _) (fun s A => ay s (fl_right' (P := [[a]]) s A))
         have a1 : ∀ s ∈ fl [[F], [a], [b], d], s ∈ fl ([] ++ ([[a]] ++ [[F], [b], d])) := Pk [1, 0, 2, 3] _ R
         have f := a6.res a1
         have h := h.step f
         have n := aU.box n ((MS.outs (P := [[a]]) aq 1 R) _ mem1)
         have w := w.step f
         have x := x.step f
         have aK := aK.step f
         have ao := aU.box ao ((MS.outs (P := [[a]]) aq 0 R) _ mem1)
         have e := e.ev aU
         have a2 : ∀ t ∈ fl [[a]], a7.heap.size ≤ t := FR.mem (ls := [[a]]) (k.pk [1] _ R)
         have i := i.then aU (fun t u => .inr (a2 t u))
         have l := b1
         refine Xb (vs := [(0, Vi aI.1)]) #[Vi aI.1] 3 R R R (by kernel_rfl) (fun H ap aD ae E bH => ?_)
         refine ⟨.inr (E.nil), ?_⟩
         have ab := e
         have f := Stp.ext (ls := [[F], [a], [b], d]) E
         have l := E.box l nn
         have h := h.step f
         have n := E.box n nn
         have w := w.step f
         have x := x.step f
         have aK := aK.step f
         have ao := E.box ao nn
         have e := e.ev E
         have i := i.ext E
         have bh : SlR eI ap (fl [[F], [a], [b], d]) (Ad H 0) 1 ([aI.1]) := ro_of_box ab aD ae R R (cells_at (cs := [Vi aI.1]) (CellsOf.cons (c := [Vi aI.1]) R CellsOf.nil))
         obtain ⟨g, A, m⟩ := Bs m
         have Z := bowl_Arrive_w bg ba bb O be bf bd (Ad D 0) 1 ([((O).length : Int)]) (Ad H 0) 1 ([aI.1]) _ ap (fl [[F], [a], [b], d]) (MS.fold (P := []) e) (w.sub fl1) (x.sub fl1) (aK.sub fl1) (bh.sub fl1) A
         refine Xc 6 #[] #[] _ _ R R R R Z ?_
         rintro aA bJ ⟨p, I, j, J, rfl, C, aY, ad, q, r⟩
         refine ⟨.inr (C.nil), ?_⟩
         have f := Stp.call0 [[F], [a], [b], d] [Bk p, Bk j] [Bk p, Bk j, [F], [a], [b], d] C ad R
         have l := C.box l nn
         have h := h.step f
         have n := C.box n nn
         have ao := C.box ao nn
         have e := MS.call0 [Bk p, Bk j] [Bk p, Bk j, [F], [a], [b], d] e C aY ad R
         have al := FR.call0 [Bk p, Bk j, [F], [a], [b]] i.size ad k R
         have i := i.ext C
         have k := al
         have q := OwnS.plain (M' := fl [Bk p, Bk j, [F], [a], [b], d]) (Pi _) q
         have r := OwnS.plain (M' := fl [Bk p, Bk j, [F], [a], [b], d]) (Pi _) r
         have v := e.pk [1, 2, 3, 4, 5] [Bk j, [F], [a], [b], d] R
         have o := Pk (ls := [Bk p, Bk j, [F], [a], [b], d]) [1, 2, 3, 4, 5] [Bk j, [F], [a], [b], d] R
         have h := h.sub o
         have q := q.ro o (pick_out e 0 R [some 1, some 2, some 3, some 4, some 5] [Bk j, [F], [a], [b], d] R R)
         have r := r.sub o
         have e := v
         have k := k.pk [1, 2, 3, 4] [Bk j, [F], [a], [b]] R
         have v := e.pk [1, 2, 3, 4] [[F], [a], [b], d] R
         have o := Pk (ls := [Bk j, [F], [a], [b], d]) [1, 2, 3, 4] [[F], [a], [b], d] R
         have h := h.sub o
         have q := q.sub o
         have r := r.ro o (pick_out e 0 R [some 1, some 2, some 3, some 4] [[F], [a], [b], d] R R)
         have e := v
         have k := k.pk [1, 2, 3] [[F], [a], [b]] R
         refine Xu 4 [(31, .tuple #[.agg #[Vi g.1.1, Vl p g.1.2.1 I, Vl j g.1.2.2 J], Vi g.2.1, Vi g.2.2]), (42, .agg #[Vi g.1.1, Vl p g.1.2.1 I, Vl j g.1.2.2 J]), (43, Vi g.2.1), (44, Vi g.2.2)] ?_
         obtain ⟨aG, aE, aB, G⟩ := Sa [Vi g.1.1, Vl p g.1.2.1 I, Vl j g.1.2.2 J] tagg26 ao R R R
         refine Ys aG _ _ R aE (I1 ?_)
         have f := Stp.ev' (ls := [[F], [a], [b], d]) G (Mf 0 R)
         have l := G.box l (e.apart 1 0 R R R _ mem1)
         have h := h.step f
         have n := G.box n (e.apart 2 0 R R R _ mem1)
         have q := q.step f
         have r := r.step f
         have e := e.ev G
         have i := i.then G (fun t u => .inr (k.at 0 R t u))
         have ao := aB
         refine Xu 2 [(7, Vi g.2.1), (8, Vi g.2.2)] (Xe R (t_stop (Kt (Cn [(3, Vp a 0), (4, Vp b 0), (5, Vi Q), (6, Vp F 0), (8, Vi g.2.2)] (fun aS => ?_)))))
         refine Cq (Cs (Xu 2 [(45, Vi g.2.2), (46, .bool (g.2.2 != 0))] (Xk (Ci (g.2.2 != 0) R m (fun m => ?_) (fun m => ?_)))))
         · refine Cs (Xu 1 [(2, .bool false)] (Xk (Cr (Kr (Kb (Kr ?_))))))
           obtain rfl := Sj m
           have am := Sj az
           subst am
           have m := bs
           refine Kr (Kb (Kr (Rr (Rv [.bool false] ⟨R, T0⟩ ?_))))
           obtain rfl := Sj m
           exact ⟨R, i⟩
         refine Ck (Kt (Cp (Yl _ _ R (Ra 0 [Vi g.1.1, Vl p g.1.2.1 I, Vl j g.1.2.2 J] tagg26 ao nn R) ?_)))
         obtain ⟨aH, aF, aC, S⟩ := Sa [Vi g.1.1, Vl p g.1.2.1 I, Vl j g.1.2.2 J] tagg26 n R R R
         refine Ys aH _ _ R aF (I1 ?_)
         have f := Stp.ev' (ls := [[F], [a], [b], d]) S (Mf 2 R)
         have l := S.box l (e.apart 1 2 R R R _ mem1)
         have h := h.step f
         have q := q.step f
         have r := r.step f
         have e := e.ev S
         have i := i.then S (fun t u => .inr (k.at 2 R t u))
         have n := aC
         refine Xe R (Kl (Kt (Cp (Xu 3 [(29, Vi Q), (30, Vi (i64.wrap (Q - 1))), (5, Vi (i64.wrap (Q - 1)))] (Xe R ?_)))))
         obtain rfl := Sj m
         have v := e.pk [1, 2, 3] [[a], [b], d] R
         have o := Pk (ls := [[F], [a], [b], d]) [1, 2, 3] [[a], [b], d] R
         have h := h.sub o
         have q := q.sub o
         have r := r.sub o
         have e := v
         have k := k.pk [1, 2] [[a], [b]] R
         exact Kt ⟨(bj, aI.2, g.1.1, g.1.2.1, g.1.2.2, i64.wrap (Q - 1), p, I, j, J), ⟨R, R, R, T0⟩, ⟨az, i, e, k, h, l, q, r, n⟩, Ns _⟩
       exact t_none
     refine t_alt _ R ?_ ?_
     · refine Xa (z := .agg #[Vi 0, Z0, Z0]) R R (by kernel_rfl) (fun B bB bS au aL cX => ?_)
       replace au : bB.heap[B]? = some (.cells #[Vi 0, Z0, Z0] 26 (0, 0)) := au
       refine ⟨.inr (aL.nil), ?_⟩
       have f := Stp.box (ls := [[a], [b], d]) aL bS
       have l := aL.box l nn
       have h := h.step f
       have n := aL.box n nn
       have w := w.step f
       have x := x.step f
       have aK := aK.step f
       have e := e.box aL bS au
       have k := k.box i.size bS
       have i := i.ext aL
       refine Xb (vs := [(0, Vi 80), (1, Vi 142), (2, Vi 262), (3, Vi 400)]) #[Vi 80, Vi 142, Vi 262, Vi 400] 3 R R R (by kernel_rfl) (fun F a8 bA ao af cf => ?_)
       refine ⟨.inr (af.nil), ?_⟩
       have ab := e
       have f := Stp.ext (ls := [[B], [a], [b], d]) af
       have l := af.box l nn
       have h := h.step f
       have n := af.box n nn
       have w := w.step f
       have x := x.step f
       have aK := aK.step f
       have au := af.box au nn
       have e := e.ev af
       have i := i.ext af
       have aZ : SlR eI a8 (fl [[B], [a], [b], d]) (Ad F 0) 4 ([80, 142, 262, 400]) := ro_of_box ab bA ao R R (cells_at (cs := [Vi 80, Vi 142, Vi 262, Vi 400]) (CellsOf.cons (c := [Vi 80]) R (CellsOf.cons (c := [Vi 142]) R (CellsOf.cons (c := [Vi 262]) R (CellsOf.cons (c := [Vi 400]) R CellsOf.nil)))))
       obtain ⟨aI, A, m⟩ := Bs m
       have v : MS a8 ([[a]] ++ [[B], [b], d]) := e.pk [1, 0, 2, 3] _ R
       have a5 : ∀ s ∈ fl ([[a]] ++ [[B], [b], d]), s ∈ fl [[B], [a], [b], d] := Pk [1, 0, 2, 3] _ R
       have ak : ∀ s ∈ fl ([[a]] ++ [(fl [[B], [b], d])]), s ∈ fl [[B], [a], [b], d] := fun s A => a5 s (Fu s A)
       have Z := gen_Maker_Pick_w a bC bD bu.1 bN (Ad F 0) 4 ([80, 142, 262, 400]) _ a8 (fl [[B], [b], d]) (v.fold (P := [[a]])) (h.sub ak) l (aZ.sub ak) A
       refine Xc 7 #[] #[] _ _ R R R R Z ?_
       rintro aA cZ ⟨rfl, aU, b1⟩
       refine ⟨.inr aU, ?_⟩
       have aq : MS a8 ([[a]] ++ [[B], [b], d]) := e.pk [1, 0, 2, 3] _ R
       have ay : ∀ s ∈ fl ([[a]] ++ [[B], [b], d]), s ∈ fl [[B], [a], [b], d] := Pk [1, 0, 2, 3] _ R
       have a6 := Stp.call (LS := [[B], [a], [b], d]) (res := []) (par := [[a]]) (R := [[B], [b], d]) aU (fun t u => ay t (fl_left' (P := [[a]]) t u)) (FR.nil _) (NP.init _ _) (fun s A => ay s (fl_right' (P := [[a]]) s A))
       have a1 : ∀ s ∈ fl [[B], [a], [b], d], s ∈ fl ([] ++ ([[a]] ++ [[B], [b], d])) := Pk [1, 0, 2, 3] _ R
       have f := a6.res a1
       have h := h.step f
       have n := aU.box n ((MS.outs (P := [[a]]) aq 1 R) _ mem1)
       have w := w.step f
       have x := x.step f
       have aK := aK.step f
       have au := aU.box au ((MS.outs (P := [[a]]) aq 0 R) _ mem1)
       have e := e.ev aU
       have a2 : ∀ t ∈ fl [[a]], a7.heap.size ≤ t := FR.mem (ls := [[a]]) (k.pk [1] _ R)
       have i := i.then aU (fun t u => .inr (a2 t u))
       have l := b1
       refine Xb (vs := [(0, Vi aI.1)]) #[Vi aI.1] 3 R R R (by kernel_rfl) (fun H ap aD ae E bH => ?_)
       refine ⟨.inr (E.nil), ?_⟩
       have ab := e
       have f := Stp.ext (ls := [[B], [a], [b], d]) E
       have l := E.box l nn
       have h := h.step f
       have n := E.box n nn
       have w := w.step f
       have x := x.step f
       have aK := aK.step f
       have au := E.box au nn
       have e := e.ev E
       have i := i.ext E
       have bh : SlR eI ap (fl [[B], [a], [b], d]) (Ad H 0) 1 ([aI.1]) := ro_of_box ab aD ae R R (cells_at (cs := [Vi aI.1]) (CellsOf.cons (c := [Vi aI.1]) R CellsOf.nil))
       obtain ⟨g, A, m⟩ := Bs m
       have Z := bowl_Arrive_w bg ba bb O be bf bd (Ad D 0) 1 ([((O).length : Int)]) (Ad H 0) 1 ([aI.1]) _ ap (fl [[B], [a], [b], d]) (MS.fold (P := []) e) (w.sub fl1) (x.sub fl1) (aK.sub fl1) (bh.sub fl1) A
       refine Xc 6 #[] #[] _ _ R R R R Z ?_
       rintro aA bJ ⟨p, I, j, J, rfl, C, aY, ad, q, r⟩
       refine ⟨.inr (C.nil), ?_⟩
       have f := Stp.call0 [[B], [a], [b], d] [Bk p, Bk j] [Bk p, Bk j, [B], [a], [b], d] C ad R
       have l := C.box l nn
       have h := h.step f
       have n := C.box n nn
       have au := C.box au nn
       have e := MS.call0 [Bk p, Bk j] [Bk p, Bk j, [B], [a], [b], d] e C aY ad R
       have al := FR.call0 [Bk p, Bk j, [B], [a], [b]] i.size ad k R
       have i := i.ext C
       have k := al
       have q := OwnS.plain (M' := fl [Bk p, Bk j, [B], [a], [b], d]) (Pi _) q
       have r := OwnS.plain (M' := fl [Bk p, Bk j, [B], [a], [b], d]) (Pi _) r
       have v := e.pk [1, 2, 3, 4, 5] [Bk j, [B], [a], [b], d] R
       have o := Pk (ls := [Bk p, Bk j, [B], [a], [b], d]) [1, 2, 3, 4, 5] [Bk j, [B], [a], [b], d] R
       have h := h.sub o
       have q := q.ro o (pick_out e 0 R [some 1, some 2, some 3, some 4, some 5] [Bk j, [B], [a], [b], d] R R)
       have r := r.sub o
       have e := v
       have k := k.pk [1, 2, 3, 4] [Bk j, [B], [a], [b]] R
       have v := e.pk [1, 2, 3, 4] [[B], [a], [b], d] R
       have o := Pk (ls := [Bk j, [B], [a], [b], d]) [1, 2, 3, 4] [[B], [a], [b], d] R
       have h := h.sub o
       have q := q.sub o
       have r := r.ro o (pick_out e 0 R [some 1, some 2, some 3, some 4] [[B], [a], [b], d] R R)
       have e := v
       have k := k.pk [1, 2, 3] [[B], [a], [b]] R
       refine Xu 4 [(31, .tuple #[.agg #[Vi g.1.1, Vl p g.1.2.1 I, Vl j g.1.2.2 J], Vi g.2.1, Vi g.2.2]), (42, .agg #[Vi g.1.1, Vl p g.1.2.1 I, Vl j g.1.2.2 J]), (43, Vi g.2.1), (44, Vi g.2.2)] ?_
       obtain ⟨aG, aE, aB, G⟩ := Sa [Vi g.1.1, Vl p g.1.2.1 I, Vl j g.1.2.2 J] tagg26 au R R R
       refine Ys aG _ _ R aE (I1 ?_)
       have f := Stp.ev' (ls := [[B], [a], [b], d]) G (Mf 0 R)
       have l := G.box l (e.apart 1 0 R R R _ mem1)
       have h := h.step f
       have n := G.box n (e.apart 2 0 R R R _ mem1)
       have q := q.step f
       have r := r.step f
       have e := e.ev G
       have i := i.then G (fun t u => .inr (k.at 0 R t u))
       have au := aB
       refine Xu 2 [(7, Vi g.2.1), (8, Vi g.2.2)] (Xe R (t_stop (Kt (Cn [(3, Vp a 0), (4, Vp b 0), (5, Vi Q), (6, Vp B 0), (8, Vi g.2.2)] (fun aS => ?_)))))
       refine Cq (Cs (Xu 2 [(45, Vi g.2.2), (46, .bool (g.2.2 != 0))] (Xk (Ci (g.2.2 != 0) R m (fun m => ?_) (fun m => ?_)))))
       · refine Cs (Xu 1 [(2, .bool false)] (Xk (Cr (Kr (Kb (Kr ?_))))))
         obtain rfl := Sj m
         have am := Sj az
         subst am
         have m := bs
         refine Kr (Kb (Kr (Rr (Rv [.bool false] ⟨R, T0⟩ ?_))))
         obtain rfl := Sj m
         exact ⟨R, i⟩
       refine Ck (Kt (Cp (Yl _ _ R (Ra 0 [Vi g.1.1, Vl p g.1.2.1 I, Vl j g.1.2.2 J] tagg26 au nn R) ?_)))
       obtain ⟨aH, aF, aC, S⟩ := Sa [Vi g.1.1, Vl p g.1.2.1 I, Vl j g.1.2.2 J] tagg26 n R R R
       refine Ys aH _ _ R aF (I1 ?_)
       have f := Stp.ev' (ls := [[B], [a], [b], d]) S (Mf 2 R)
       have l := S.box l (e.apart 1 2 R R R _ mem1)
       have h := h.step f
       have q := q.step f
       have r := r.step f
       have e := e.ev S
       have i := i.then S (fun t u => .inr (k.at 2 R t u))
       have n := aC
       refine Xe R (Kl (Kt (Cp (Xu 3 [(29, Vi Q), (30, Vi (i64.wrap (Q - 1))), (5, Vi (i64.wrap (Q - 1)))] (Xe R ?_)))))
       obtain rfl := Sj m
       have v := e.pk [1, 2, 3] [[a], [b], d] R
       have o := Pk (ls := [[B], [a], [b], d]) [1, 2, 3] [[a], [b], d] R
       have h := h.sub o
       have q := q.sub o
       have r := r.sub o
       have e := v
       have k := k.pk [1, 2] [[a], [b]] R
       exact Kt ⟨(bj, aI.2, g.1.1, g.1.2.1, g.1.2.2, i64.wrap (Q - 1), p, I, j, J), ⟨R, R, R, T0⟩, ⟨az, i, e, k, h, l, q, r, n⟩, Ns _⟩
     exact t_none
   refine t_alt _ R ?_ ?_
   · refine Xb (vs := [(0, Vi 80), (1, Vi 142), (2, Vi 262), (3, Vi 400)]) #[Vi 80, Vi 142, Vi 262, Vi 400] 3 R R R (by kernel_rfl) (fun D cg cA ax bG dF => ?_)
     refine ⟨.inr (bG.nil), ?_⟩
     have ab := e
     have f := Stp.ext (ls := [[a], [b], d]) bG
     have l := bG.box l nn
     have h := h.step f
     have n := bG.box n nn
     have w := w.step f
     have x := x.step f
     have e := e.ev bG
     have i := i.ext bG
     have aK : SlR eI cg (fl [[a], [b], d]) (Ad D 0) 4 ([80, 142, 262, 400]) := ro_of_box ab cA ax R R (cells_at (cs := [Vi 80, Vi 142, Vi 262, Vi 400]) (CellsOf.cons (c := [Vi 80]) R (CellsOf.cons (c := [Vi 142]) R (CellsOf.cons (c := [Vi 262]) R (CellsOf.cons (c := [Vi 400]) R CellsOf.nil)))))
     refine Xe R (t_alt _ R ?_ ?_)
     · refine Xb (vs := [(0, Vi ((O).length : Int))]) #[Vi ((O).length : Int)] 3 R R R (by kernel_rfl) (fun B bB bS au aL cX => ?_)
       refine ⟨.inr (aL.nil), ?_⟩
       have ab := e
       have f := Stp.ext (ls := [[a], [b], d]) aL
       have l := aL.box l nn
       have h := h.step f
       have n := aL.box n nn
       have w := w.step f
       have x := x.step f
       have aK := aK.step f
       have e := e.ev aL
       have i := i.ext aL
       have a0 : SlR eI bB (fl [[a], [b], d]) (Ad B 0) 1 ([((O).length : Int)]) := ro_of_box ab bS au R R (cells_at (cs := [Vi ((O).length : Int)]) (CellsOf.cons (c := [Vi ((O).length : Int)]) R CellsOf.nil))
       refine Xe R (t_alt _ R ?_ ?_)
       · obtain ⟨aj, A, m⟩ := Bs m
         have v : MS bB ([[a]] ++ [[b], d]) := e.pk [0, 1, 2] _ R
         have a5 : ∀ s ∈ fl ([[a]] ++ [[b], d]), s ∈ fl [[a], [b], d] := Pk [0, 1, 2] _ R
         have ak : ∀ s ∈ fl ([[a]] ++ [(fl [[b], d])]), s ∈ fl [[a], [b], d] := fun s A => a5 s (Fu s A)
         have Z := gen_Maker_Pick_w a bC bD bu.1 bN (Ad D 0) 4 ([80, 142, 262, 400]) _ bB (fl [[b], d]) (v.fold (P := [[a]])) (h.sub ak) l (aK.sub ak) A
         refine Xc 7 #[] #[] _ _ R R R R Z ?_
         rintro aA du ⟨rfl, bt, cz⟩
         refine ⟨.inr bt, ?_⟩
         have aq : MS bB ([[a]] ++ [[b], d]) := e.pk [0, 1, 2] _ R
         have ay : ∀ s ∈ fl ([[a]] ++ [[b], d]), s ∈ fl [[a], [b], d] := Pk [0, 1, 2] _ R
         have a6 := Stp.call (LS := [[a], [b], d]) (res := []) (par := [[a]]) (R := [[b], d]) bt (fun t u => ay t (fl_left' (P := [[a]]) t u)) (FR.nil _) (NP.init _ _) (fun s A => ay s (fl_right' (P := [[a]]) s A))
         have a1 : ∀ s ∈ fl [[a], [b], d], s ∈ fl ([] ++ ([[a]] ++ [[b], d])) := Pk [0, 1, 2] _ R
         have f := a6.res a1
         have h := h.step f
         have n := bt.box n ((MS.outs (P := [[a]]) aq 0 R) _ mem1)
         have w := w.step f
         have x := x.step f
         have a0 := a0.step f
         have e := e.ev bt
         have a2 : ∀ t ∈ fl [[a]], a7.heap.size ≤ t := FR.mem (ls := [[a]]) (k.pk [0] _ R)
         have i := i.then bt (fun t u => .inr (a2 t u))
         have l := cz
         refine Xe R (t_alt _ R ?_ ?_)
         · refine Xb (vs := [(0, Vi aj.1)]) #[Vi aj.1] 3 R R R (by kernel_rfl) (fun L bi a4 ag Y bZ => ?_)
           refine ⟨.inr (Y.nil), ?_⟩
           have ab := e
           have f := Stp.ext (ls := [[a], [b], d]) Y
           have l := Y.box l nn
           have h := h.step f
           have n := Y.box n nn
           have w := w.step f
           have x := x.step f
           have a0 := a0.step f
           have e := e.ev Y
           have i := i.ext Y
           have aO : SlR eI bi (fl [[a], [b], d]) (Ad L 0) 1 ([aj.1]) := ro_of_box ab a4 ag R R (cells_at (cs := [Vi aj.1]) (CellsOf.cons (c := [Vi aj.1]) R CellsOf.nil))
           refine Xe R (t_alt _ R ?_ ?_)
           · obtain ⟨U, A, m⟩ := Bs m
             have Z := bowl_Arrive_w bg ba bb O be bf bd (Ad B 0) 1 ([((O).length : Int)]) (Ad L 0) 1 ([aj.1]) _ bi (fl [[a], [b], d]) (MS.fold (P := []) e) (w.sub fl1) (x.sub fl1) (a0.sub fl1) (aO.sub fl1) A
             refine Xc 6 #[] #[] _ _ R R R R Z ?_
             rintro aA dv ⟨an, bk, ac, bm, rfl, bo, cy, bQ, ah, ai⟩
             refine ⟨.inr (bo.nil), ?_⟩
             have f := Stp.call0 [[a], [b], d] [Bk an, Bk ac] [Bk an, Bk ac, [a], [b], d] bo bQ R
             have l := bo.box l nn
             have h := h.step f
             have n := bo.box n nn
             have e := MS.call0 [Bk an, Bk ac] [Bk an, Bk ac, [a], [b], d] e bo cy bQ R
             have al := FR.call0 [Bk an, Bk ac, [a], [b]] i.size bQ k R
             have i := i.ext bo
             have k := al
             have ah := OwnS.plain (M' := fl [Bk an, Bk ac, [a], [b], d]) (Pi _) ah
             have ai := OwnS.plain (M' := fl [Bk an, Bk ac, [a], [b], d]) (Pi _) ai
             have v := e.pk [1, 2, 3, 4] [Bk ac, [a], [b], d] R
             have o := Pk (ls := [Bk an, Bk ac, [a], [b], d]) [1, 2, 3, 4] [Bk ac, [a], [b], d] R
             have h := h.sub o
             have ah := ah.ro o (pick_out e 0 R [some 1, some 2, some 3, some 4] [Bk ac, [a], [b], d] R R)
             have ai := ai.sub o
             have e := v
             have k := k.pk [1, 2, 3] [Bk ac, [a], [b]] R
             have v := e.pk [1, 2, 3] [[a], [b], d] R
             have o := Pk (ls := [Bk ac, [a], [b], d]) [1, 2, 3] [[a], [b], d] R
             have h := h.sub o
             have ah := ah.sub o
             have ai := ai.ro o (pick_out e 0 R [some 1, some 2, some 3] [[a], [b], d] R R)
             have e := v
             have k := k.pk [1, 2] [[a], [b]] R
             refine Xu 4 [(31, .tuple #[.agg #[Vi U.1.1, Vl an U.1.2.1 bk, Vl ac U.1.2.2 bm], Vi U.2.1, Vi U.2.2]), (42, .agg #[Vi U.1.1, Vl an U.1.2.1 bk, Vl ac U.1.2.2 bm]), (43, Vi U.2.1), (44, Vi U.2.2)] (Xa (z := .agg #[Vi 0, Z0, Z0]) R R (by kernel_rfl) (fun bz cB bU bn bp ds => ?_))
             replace bn : cB.heap[bz]? = some (.cells #[Vi 0, Z0, Z0] 26 (0, 0)) := bn
             refine ⟨.inr (bp.nil), ?_⟩
             have f := Stp.box (ls := [[a], [b], d]) bp bU
             have l := bp.box l nn
             have h := h.step f
             have n := bp.box n nn
             have ah := ah.step f
             have ai := ai.step f
             have e := e.box bp bU bn
             have k := k.box i.size bU
             have i := i.ext bp
             obtain ⟨aG, aE, aB, G⟩ := Sa [Vi U.1.1, Vl an U.1.2.1 bk, Vl ac U.1.2.2 bm] tagg26 bn R R R
             refine Ys aG _ _ R aE (I1 ?_)
             have f := Stp.ev' (ls := [[bz], [a], [b], d]) G (Mf 0 R)
             have l := G.box l (e.apart 1 0 R R R _ mem1)
             have h := h.step f
             have n := G.box n (e.apart 2 0 R R R _ mem1)
             have ah := ah.step f
             have ai := ai.step f
             have e := e.ev G
             have i := i.then G (fun t u => .inr (k.at 0 R t u))
             have bn := aB
             refine Xu 2 [(7, Vi U.2.1), (8, Vi U.2.2)] (Xe R (t_stop (Kt (Cn [(3, Vp a 0), (4, Vp b 0), (5, Vi Q), (6, Vp bz 0), (8, Vi U.2.2)] (fun aS => ?_)))))
             refine Cq (Cs (Xu 2 [(45, Vi U.2.2), (46, .bool (U.2.2 != 0))] (Xk (Ci (U.2.2 != 0) R m (fun m => ?_) (fun m => ?_)))))
             · refine Cs (Xu 1 [(2, .bool false)] (Xk (Cr (Kr (Kb (Kr ?_))))))
               obtain rfl := Sj m
               have am := Sj az
               subst am
               have m := bs
               refine Kr (Kb (Kr (Rr (Rv [.bool false] ⟨R, T0⟩ ?_))))
               obtain rfl := Sj m
               exact ⟨R, i⟩
             refine Ck (Kt (Cp (Yl _ _ R (Ra 0 [Vi U.1.1, Vl an U.1.2.1 bk, Vl ac U.1.2.2 bm] tagg26 bn nn R) ?_)))
             obtain ⟨aH, aF, aC, S⟩ := Sa [Vi U.1.1, Vl an U.1.2.1 bk, Vl ac U.1.2.2 bm] tagg26 n R R R
             refine Ys aH _ _ R aF (I1 ?_)
             have f := Stp.ev' (ls := [[bz], [a], [b], d]) S (Mf 2 R)
             have l := S.box l (e.apart 1 2 R R R _ mem1)
             have h := h.step f
             have ah := ah.step f
             have ai := ai.step f
             have e := e.ev S
             have i := i.then S (fun t u => .inr (k.at 2 R t u))
             have n := aC
             refine Xe R (Kl (Kt (Cp (Xu 3 [(29, Vi Q), (30, Vi (i64.wrap (Q - 1))), (5, Vi (i64.wrap (Q - 1)))] (Xe R ?_)))))
             obtain rfl := Sj m
             have v := e.pk [1, 2, 3] [[a], [b], d] R
             have o := Pk (ls := [[bz], [a], [b], d]) [1, 2, 3] [[a], [b], d] R
             have h := h.sub o
             have ah := ah.sub o
             have ai := ai.sub o
             have e := v
             have k := k.pk [1, 2] [[a], [b]] R
             exact Kt ⟨(bj, aj.2, U.1.1, U.1.2.1, U.1.2.2, i64.wrap (Q - 1), an, bk, ac, bm), ⟨R, R, R, T0⟩, ⟨az, i, e, k, h, l, ah, ai, n⟩, Ns _⟩
           refine t_alt _ R ?_ ?_
           · refine Xa (z := .agg #[Vi 0, Z0, Z0]) R R (by kernel_rfl) (fun H ap aD ae E bH => ?_)
             replace ae : ap.heap[H]? = some (.cells #[Vi 0, Z0, Z0] 26 (0, 0)) := ae
             refine ⟨.inr (E.nil), ?_⟩
             have f := Stp.box (ls := [[a], [b], d]) E aD
             have l := E.box l nn
             have h := h.step f
             have n := E.box n nn
             have w := w.step f
             have x := x.step f
             have a0 := a0.step f
             have aO := aO.step f
             have e := e.box E aD ae
             have k := k.box i.size aD
             have i := i.ext E
             obtain ⟨g, A, m⟩ := Bs m
             have Z := bowl_Arrive_w bg ba bb O be bf bd (Ad B 0) 1 ([((O).length : Int)]) (Ad L 0) 1 ([aj.1]) _ ap (fl [[H], [a], [b], d]) (MS.fold (P := []) e) (w.sub fl1) (x.sub fl1) (a0.sub fl1) (aO.sub fl1) A
             refine Xc 6 #[] #[] _ _ R R R R Z ?_
             rintro aA bJ ⟨p, I, j, J, rfl, C, aY, ad, q, r⟩
             refine ⟨.inr (C.nil), ?_⟩
             have f := Stp.call0 [[H], [a], [b], d] [Bk p, Bk j] [Bk p, Bk j, [H], [a], [b], d] C ad R
             have l := C.box l nn
             have h := h.step f
             have n := C.box n nn
             have ae := C.box ae nn
             have e := MS.call0 [Bk p, Bk j] [Bk p, Bk j, [H], [a], [b], d] e C aY ad R
             have al := FR.call0 [Bk p, Bk j, [H], [a], [b]] i.size ad k R
             have i := i.ext C
             have k := al
             have q := OwnS.plain (M' := fl [Bk p, Bk j, [H], [a], [b], d]) (Pi _) q
             have r := OwnS.plain (M' := fl [Bk p, Bk j, [H], [a], [b], d]) (Pi _) r
             have v := e.pk [1, 2, 3, 4, 5] [Bk j, [H], [a], [b], d] R
             have o := Pk (ls := [Bk p, Bk j, [H], [a], [b], d]) [1, 2, 3, 4, 5] [Bk j, [H], [a], [b], d] R
             have h := h.sub o
             have q := q.ro o (pick_out e 0 R [some 1, some 2, some 3, some 4, some 5] [Bk j, [H], [a], [b], d] R R)
             have r := r.sub o
             have e := v
             have k := k.pk [1, 2, 3, 4] [Bk j, [H], [a], [b]] R
             have v := e.pk [1, 2, 3, 4] [[H], [a], [b], d] R
             have o := Pk (ls := [Bk j, [H], [a], [b], d]) [1, 2, 3, 4] [[H], [a], [b], d] R
             have h := h.sub o
             have q := q.sub o
             have r := r.ro o (pick_out e 0 R [some 1, some 2, some 3, some 4] [[H], [a], [b], d] R R)
             have e := v
             have k := k.pk [1, 2, 3] [[H], [a], [b]] R
             refine Xu 4 [(31, .tuple #[.agg #[Vi g.1.1, Vl p g.1.2.1 I, Vl j g.1.2.2 J], Vi g.2.1, Vi g.2.2]), (42, .agg #[Vi g.1.1, Vl p g.1.2.1 I, Vl j g.1.2.2 J]), (43, Vi g.2.1), (44, Vi g.2.2)] ?_
             obtain ⟨aG, aE, aB, G⟩ := Sa [Vi g.1.1, Vl p g.1.2.1 I, Vl j g.1.2.2 J] tagg26 ae R R R
             refine Ys aG _ _ R aE (I1 ?_)
             have f := Stp.ev' (ls := [[H], [a], [b], d]) G (Mf 0 R)
             have l := G.box l (e.apart 1 0 R R R _ mem1)
             have h := h.step f
             have n := G.box n (e.apart 2 0 R R R _ mem1)
             have q := q.step f
             have r := r.step f
             have e := e.ev G
             have i := i.then G (fun t u => .inr (k.at 0 R t u))
             have ae := aB
             refine Xu 2 [(7, Vi g.2.1), (8, Vi g.2.2)] (Xe R (t_stop (Kt (Cn [(3, Vp a 0), (4, Vp b 0), (5, Vi Q), (6, Vp H 0), (8, Vi g.2.2)] (fun aS => ?_)))))
             refine Cq (Cs (Xu 2 [(45, Vi g.2.2), (46, .bool (g.2.2 != 0))] (Xk (Ci (g.2.2 != 0) R m (fun m => ?_) (fun m => ?_)))))
             · refine Cs (Xu 1 [(2, .bool false)] (Xk (Cr (Kr (Kb (Kr ?_))))))
               obtain rfl := Sj m
               have am := Sj az
               subst am
               have m := bs
               refine Kr (Kb (Kr (Rr (Rv [.bool false] ⟨R, T0⟩ ?_))))
               obtain rfl := Sj m
               exact ⟨R, i⟩
             refine Ck (Kt (Cp (Yl _ _ R (Ra 0 [Vi g.1.1, Vl p g.1.2.1 I, Vl j g.1.2.2 J] tagg26 ae nn R) ?_)))
             obtain ⟨aH, aF, aC, S⟩ := Sa [Vi g.1.1, Vl p g.1.2.1 I, Vl j g.1.2.2 J] tagg26 n R R R
             refine Ys aH _ _ R aF (I1 ?_)
             have f := Stp.ev' (ls := [[H], [a], [b], d]) S (Mf 2 R)
             have l := S.box l (e.apart 1 2 R R R _ mem1)
             have h := h.step f
             have q := q.step f
             have r := r.step f
             have e := e.ev S
             have i := i.then S (fun t u => .inr (k.at 2 R t u))
             have n := aC
             refine Xe R (Kl (Kt (Cp (Xu 3 [(29, Vi Q), (30, Vi (i64.wrap (Q - 1))), (5, Vi (i64.wrap (Q - 1)))] (Xe R ?_)))))
             obtain rfl := Sj m
             have v := e.pk [1, 2, 3] [[a], [b], d] R
             have o := Pk (ls := [[H], [a], [b], d]) [1, 2, 3] [[a], [b], d] R
             have h := h.sub o
             have q := q.sub o
             have r := r.sub o
             have e := v
             have k := k.pk [1, 2] [[a], [b]] R
             exact Kt ⟨(bj, aj.2, g.1.1, g.1.2.1, g.1.2.2, i64.wrap (Q - 1), p, I, j, J), ⟨R, R, R, T0⟩, ⟨az, i, e, k, h, l, q, r, n⟩, Ns _⟩
           exact t_none
         refine t_alt _ R ?_ ?_
         · refine Xa (z := .agg #[Vi 0, Z0, Z0]) R R (by kernel_rfl) (fun L bi a4 ag Y bZ => ?_)
           replace ag : bi.heap[L]? = some (.cells #[Vi 0, Z0, Z0] 26 (0, 0)) := ag
           refine ⟨.inr (Y.nil), ?_⟩
           have f := Stp.box (ls := [[a], [b], d]) Y a4
           have l := Y.box l nn
           have h := h.step f
           have n := Y.box n nn
           have w := w.step f
           have x := x.step f
           have a0 := a0.step f
           have e := e.box Y a4 ag
           have k := k.box i.size a4
           have i := i.ext Y
           refine Xb (vs := [(0, Vi aj.1)]) #[Vi aj.1] 3 R R R (by kernel_rfl) (fun H ap aD ae E bH => ?_)
           refine ⟨.inr (E.nil), ?_⟩
           have ab := e
           have f := Stp.ext (ls := [[L], [a], [b], d]) E
           have l := E.box l nn
           have h := h.step f
           have n := E.box n nn
           have w := w.step f
           have x := x.step f
           have a0 := a0.step f
           have ag := E.box ag nn
           have e := e.ev E
           have i := i.ext E
           have bh : SlR eI ap (fl [[L], [a], [b], d]) (Ad H 0) 1 ([aj.1]) := ro_of_box ab aD ae R R (cells_at (cs := [Vi aj.1]) (CellsOf.cons (c := [Vi aj.1]) R CellsOf.nil))
           obtain ⟨g, A, m⟩ := Bs m
           have Z := bowl_Arrive_w bg ba bb O be bf bd (Ad B 0) 1 ([((O).length : Int)]) (Ad H 0) 1 ([aj.1]) _ ap (fl [[L], [a], [b], d]) (MS.fold (P := []) e) (w.sub fl1) (x.sub fl1) (a0.sub fl1) (bh.sub fl1) A
           refine Xc 6 #[] #[] _ _ R R R R Z ?_
           rintro aA bJ ⟨p, I, j, J, rfl, C, aY, ad, q, r⟩
           refine ⟨.inr (C.nil), ?_⟩
           have f := Stp.call0 [[L], [a], [b], d] [Bk p, Bk j] [Bk p, Bk j, [L], [a], [b], d] C ad R
           have l := C.box l nn
           have h := h.step f
           have n := C.box n nn
           have ag := C.box ag nn
           have e := MS.call0 [Bk p, Bk j] [Bk p, Bk j, [L], [a], [b], d] e C aY ad R
           have al := FR.call0 [Bk p, Bk j, [L], [a], [b]] i.size ad k R
           have i := i.ext C
           have k := al
           have q := OwnS.plain (M' := fl [Bk p, Bk j, [L], [a], [b], d]) (Pi _) q
           have r := OwnS.plain (M' := fl [Bk p, Bk j, [L], [a], [b], d]) (Pi _) r
           have v := e.pk [1, 2, 3, 4, 5] [Bk j, [L], [a], [b], d] R
           have o := Pk (ls := [Bk p, Bk j, [L], [a], [b], d]) [1, 2, 3, 4, 5] [Bk j, [L], [a], [b], d] R
           have h := h.sub o
           have q := q.ro o (pick_out e 0 R [some 1, some 2, some 3, some 4, some 5] [Bk j, [L], [a], [b], d] R R)
           have r := r.sub o
           have e := v
           have k := k.pk [1, 2, 3, 4] [Bk j, [L], [a], [b]] R
           have v := e.pk [1, 2, 3, 4] [[L], [a], [b], d] R
           have o := Pk (ls := [Bk j, [L], [a], [b], d]) [1, 2, 3, 4] [[L], [a], [b], d] R
           have h := h.sub o
           have q := q.sub o
           have r := r.ro o (pick_out e 0 R [some 1, some 2, some 3, some 4] [[L], [a], [b], d] R R)
           have e := v
           have k := k.pk [1, 2, 3] [[L], [a], [b]] R
           refine Xu 4 [(31, .tuple #[.agg #[Vi g.1.1, Vl p g.1.2.1 I, Vl j g.1.2.2 J], Vi g.2.1, Vi g.2.2]), (42, .agg #[Vi g.1.1, Vl p g.1.2.1 I, Vl j g.1.2.2 J]), (43, Vi g.2.1), (44, Vi g.2.2)] ?_
           obtain ⟨aG, aE, aB, G⟩ := Sa [Vi g.1.1, Vl p g.1.2.1 I, Vl j g.1.2.2 J] tagg26 ag R R R
           refine Ys aG _ _ R aE (I1 ?_)
           have f := Stp.ev' (ls := [[L], [a], [b], d]) G (Mf 0 R)
           have l := G.box l (e.apart 1 0 R R R _ mem1)
           have h := h.step f
           have n := G.box n (e.apart 2 0 R R R _ mem1)
           have q := q.step f
           have r := r.step f
           have e := e.ev G
           have i := i.then G (fun t u => .inr (k.at 0 R t u))
           have ag := aB
           refine Xu 2 [(7, Vi g.2.1), (8, Vi g.2.2)] (Xe R (t_stop (Kt (Cn [(3, Vp a 0), (4, Vp b 0), (5, Vi Q), (6, Vp L 0), (8, Vi g.2.2)] (fun aS => ?_)))))
           refine Cq (Cs (Xu 2 [(45, Vi g.2.2), (46, .bool (g.2.2 != 0))] (Xk (Ci (g.2.2 != 0) R m (fun m => ?_) (fun m => ?_)))))
           · refine Cs (Xu 1 [(2, .bool false)] (Xk (Cr (Kr (Kb (Kr ?_))))))
             obtain rfl := Sj m
             have am := Sj az
             subst am
             have m := bs
             refine Kr (Kb (Kr (Rr (Rv [.bool false] ⟨R, T0⟩ ?_))))
             obtain rfl := Sj m
             exact ⟨R, i⟩
           refine Ck (Kt (Cp (Yl _ _ R (Ra 0 [Vi g.1.1, Vl p g.1.2.1 I, Vl j g.1.2.2 J] tagg26 ag nn R) ?_)))
           obtain ⟨aH, aF, aC, S⟩ := Sa [Vi g.1.1, Vl p g.1.2.1 I, Vl j g.1.2.2 J] tagg26 n R R R
           refine Ys aH _ _ R aF (I1 ?_)
           have f := Stp.ev' (ls := [[L], [a], [b], d]) S (Mf 2 R)
           have l := S.box l (e.apart 1 2 R R R _ mem1)
           have h := h.step f
           have q := q.step f
           have r := r.step f
           have e := e.ev S
           have i := i.then S (fun t u => .inr (k.at 2 R t u))
           have n := aC
           refine Xe R (Kl (Kt (Cp (Xu 3 [(29, Vi Q), (30, Vi (i64.wrap (Q - 1))), (5, Vi (i64.wrap (Q - 1)))] (Xe R ?_)))))
           obtain rfl := Sj m
           have v := e.pk [1, 2, 3] [[a], [b], d] R
           have o := Pk (ls := [[L], [a], [b], d]) [1, 2, 3] [[a], [b], d] R
           have h := h.sub o
           have q := q.sub o
           have r := r.sub o
           have e := v
           have k := k.pk [1, 2] [[a], [b]] R
           exact Kt ⟨(bj, aj.2, g.1.1, g.1.2.1, g.1.2.2, i64.wrap (Q - 1), p, I, j, J), ⟨R, R, R, T0⟩, ⟨az, i, e, k, h, l, q, r, n⟩, Ns _⟩
         exact t_none
       refine t_alt _ R ?_ ?_
       · refine Xa (z := .agg #[Vi 0, Z0, Z0]) R R (by kernel_rfl) (fun F a8 bA ao af cf => ?_)
         replace ao : a8.heap[F]? = some (.cells #[Vi 0, Z0, Z0] 26 (0, 0)) := ao
         refine ⟨.inr (af.nil), ?_⟩
         have f := Stp.box (ls := [[a], [b], d]) af bA
         have l := af.box l nn
         have h := h.step f
         have n := af.box n nn
         have w := w.step f
         have x := x.step f
         have aK := aK.step f
         have a0 := a0.step f
         have e := e.box af bA ao
         have k := k.box i.size bA
         have i := i.ext af
         obtain ⟨aI, A, m⟩ := Bs m
         have v : MS a8 ([[a]] ++ [[F], [b], d]) := e.pk [1, 0, 2, 3] _ R
         have a5 : ∀ s ∈ fl ([[a]] ++ [[F], [b], d]), s ∈ fl [[F], [a], [b], d] := Pk [1, 0, 2, 3] _ R
         have ak : ∀ s ∈ fl ([[a]] ++ [(fl [[F], [b], d])]), s ∈ fl [[F], [a], [b], d] := fun s A => a5 s (Fu s A)
         have Z := gen_Maker_Pick_w a bC bD bu.1 bN (Ad D 0) 4 ([80, 142, 262, 400]) _ a8 (fl [[F], [b], d]) (v.fold (P := [[a]])) (h.sub ak) l (aK.sub ak) A
         refine Xc 7 #[] #[] _ _ R R R R Z ?_
         rintro aA cZ ⟨rfl, aU, b1⟩
         refine ⟨.inr aU, ?_⟩
         have aq : MS a8 ([[a]] ++ [[F], [b], d]) := e.pk [1, 0, 2, 3] _ R
         have ay : ∀ s ∈ fl ([[a]] ++ [[F], [b], d]), s ∈ fl [[F], [a], [b], d] := Pk [1, 0, 2, 3] _ R
         have a6 := Stp.call (LS := [[F], [a], [b], d]) (res := []) (par := [[a]]) (R := [[F], [b], d]) aU (fun t u => ay t (fl_left' (P := [[a]]) t u)) (FR.nil _) (NP.init _ _) (fun s A => ay s (fl_right' (P := [[a]]) s A))
         have a1 : ∀ s ∈ fl [[F], [a], [b], d], s ∈ fl ([] ++ ([[a]] ++ [[F], [b], d])) := Pk [1, 0, 2, 3] _ R
         have f := a6.res a1
         have h := h.step f
         have n := aU.box n ((MS.outs (P := [[a]]) aq 1 R) _ mem1)
         have w := w.step f
         have x := x.step f
         have a0 := a0.step f
         have ao := aU.box ao ((MS.outs (P := [[a]]) aq 0 R) _ mem1)
         have e := e.ev aU
         have a2 : ∀ t ∈ fl [[a]], a7.heap.size ≤ t := FR.mem (ls := [[a]]) (k.pk [1] _ R)
         have i := i.then aU (fun t u => .inr (a2 t u))
         have l := b1
         refine Xb (vs := [(0, Vi aI.1)]) #[Vi aI.1] 3 R R R (by kernel_rfl) (fun H ap aD ae E bH => ?_)
         refine ⟨.inr (E.nil), ?_⟩
         have ab := e
         have f := Stp.ext (ls := [[F], [a], [b], d]) E
         have l := E.box l nn
         have h := h.step f
         have n := E.box n nn
         have w := w.step f
         have x := x.step f
         have a0 := a0.step f
         have ao := E.box ao nn
         have e := e.ev E
         have i := i.ext E
         have bh : SlR eI ap (fl [[F], [a], [b], d]) (Ad H 0) 1 ([aI.1]) := ro_of_box ab aD ae R R (cells_at (cs := [Vi aI.1]) (CellsOf.cons (c := [Vi aI.1]) R CellsOf.nil))
         obtain ⟨g, A, m⟩ := Bs m
         have Z := bowl_Arrive_w bg ba bb O be bf bd (Ad B 0) 1 ([((O).length : Int)]) (Ad H 0) 1 ([aI.1]) _ ap (fl [[F], [a], [b], d]) (MS.fold (P := []) e) (w.sub fl1) (x.sub fl1) (a0.sub fl1) (bh.sub fl1) A
         refine Xc 6 #[] #[] _ _ R R R R Z ?_
         rintro aA bJ ⟨p, I, j, J, rfl, C, aY, ad, q, r⟩
         refine ⟨.inr (C.nil), ?_⟩
         have f := Stp.call0 [[F], [a], [b], d] [Bk p, Bk j] [Bk p, Bk j, [F], [a], [b], d] C ad R
         have l := C.box l nn
         have h := h.step f
         have n := C.box n nn
         have ao := C.box ao nn
         have e := MS.call0 [Bk p, Bk j] [Bk p, Bk j, [F], [a], [b], d] e C aY ad R
         have al := FR.call0 [Bk p, Bk j, [F], [a], [b]] i.size ad k R
         have i := i.ext C
         have k := al
         have q := OwnS.plain (M' := fl [Bk p, Bk j, [F], [a], [b], d]) (Pi _) q
         have r := OwnS.plain (M' := fl [Bk p, Bk j, [F], [a], [b], d]) (Pi _) r
         have v := e.pk [1, 2, 3, 4, 5] [Bk j, [F], [a], [b], d] R
         have o := Pk (ls := [Bk p, Bk j, [F], [a], [b], d]) [1, 2, 3, 4, 5] [Bk j, [F], [a], [b], d] R
         have h := h.sub o
         have q := q.ro o (pick_out e 0 R [some 1, some 2, some 3, some 4, some 5] [Bk j, [F], [a], [b], d] R R)
         have r := r.sub o
         have e := v
         have k := k.pk [1, 2, 3, 4] [Bk j, [F], [a], [b]] R
         have v := e.pk [1, 2, 3, 4] [[F], [a], [b], d] R
         have o := Pk (ls := [Bk j, [F], [a], [b], d]) [1, 2, 3, 4] [[F], [a], [b], d] R
         have h := h.sub o
         have q := q.sub o
         have r := r.ro o (pick_out e 0 R [some 1, some 2, some 3, some 4] [[F], [a], [b], d] R R)
         have e := v
         have k := k.pk [1, 2, 3] [[F], [a], [b]] R
         refine Xu 4 [(31, .tuple #[.agg #[Vi g.1.1, Vl p g.1.2.1 I, Vl j g.1.2.2 J], Vi g.2.1, Vi g.2.2]), (42, .agg #[Vi g.1.1, Vl p g.1.2.1 I, Vl j g.1.2.2 J]), (43, Vi g.2.1), (44, Vi g.2.2)] ?_
         obtain ⟨aG, aE, aB, G⟩ := Sa [Vi g.1.1, Vl p g.1.2.1 I, Vl j g.1.2.2 J] tagg26 ao R R R
         refine Ys aG _ _ R aE (I1 ?_)
         have f := Stp.ev' (ls := [[F], [a], [b], d]) G (Mf 0 R)
         have l := G.box l (e.apart 1 0 R R R _ mem1)
         have h := h.step f
         have n := G.box n (e.apart 2 0 R R R _ mem1)
         have q := q.step f
         have r := r.step f
         have e := e.ev G
         have i := i.then G (fun t u => .inr (k.at 0 R t u))
         have ao := aB
         refine Xu 2 [(7, Vi g.2.1), (8, Vi g.2.2)] (Xe R (t_stop (Kt (Cn [(3, Vp a 0), (4, Vp b 0), (5, Vi Q), (6, Vp F 0), (8, Vi g.2.2)] (fun aS => ?_)))))
         refine Cq (Cs (Xu 2 [(45, Vi g.2.2), (46, .bool (g.2.2 != 0))] (Xk (Ci (g.2.2 != 0) R m (fun m => ?_) (fun m => ?_)))))
         · refine Cs (Xu 1 [(2, .bool false)] (Xk (Cr (Kr (Kb (Kr ?_))))))
           obtain rfl := Sj m
           have am := Sj az
           subst am
           have m := bs
           refine Kr (Kb (Kr (Rr (Rv [.bool false] ⟨R, T0⟩ ?_))))
           obtain rfl := Sj m
           exact ⟨R, i⟩
         refine Ck (Kt (Cp (Yl _ _ R (Ra 0 [Vi g.1.1, Vl p g.1.2.1 I, Vl j g.1.2.2 J] tagg26 ao nn R) ?_)))
         obtain ⟨aH, aF, aC, S⟩ := Sa [Vi g.1.1, Vl p g.1.2.1 I, Vl j g.1.2.2 J] tagg26 n R R R
         refine Ys aH _ _ R aF (I1 ?_)
         have f := Stp.ev' (ls := [[F], [a], [b], d]) S (Mf 2 R)
         have l := S.box l (e.apart 1 2 R R R _ mem1)
         have h := h.step f
         have q := q.step f
         have r := r.step f
         have e := e.ev S
         have i := i.then S (fun t u => .inr (k.at 2 R t u))
         have n := aC
         refine Xe R (Kl (Kt (Cp (Xu 3 [(29, Vi Q), (30, Vi (i64.wrap (Q - 1))), (5, Vi (i64.wrap (Q - 1)))] (Xe R ?_)))))
         obtain rfl := Sj m
         have v := e.pk [1, 2, 3] [[a], [b], d] R
         have o := Pk (ls := [[F], [a], [b], d]) [1, 2, 3] [[a], [b], d] R
         have h := h.sub o
         have q := q.sub o
         have r := r.sub o
         have e := v
         have k := k.pk [1, 2] [[a], [b]] R
         exact Kt ⟨(bj, aI.2, g.1.1, g.1.2.1, g.1.2.2, i64.wrap (Q - 1), p, I, j, J), ⟨R, R, R, T0⟩, ⟨az, i, e, k, h, l, q, r, n⟩, Ns _⟩
       exact t_none
     refine t_alt _ R ?_ ?_
     · obtain ⟨aX, A, m⟩ := Bs m
       have v : MS cg ([[a]] ++ [[b], d]) := e.pk [0, 1, 2] _ R
       have a5 : ∀ s ∈ fl ([[a]] ++ [[b], d]), s ∈ fl [[a], [b], d] := Pk [0, 1, 2] _ R
       have ak : ∀ s ∈ fl ([[a]] ++ [(fl [[b], d])]), s ∈ fl [[a], [b], d] := fun s A => a5 s (Fu s A)
       have Z := gen_Maker_Pick_w a bC bD bu.1 bN (Ad D 0) 4 ([80, 142, 262, 400]) _ cg (fl [[b], d]) (v.fold (P := [[a]])) (h.sub ak) l (aK.sub ak) A
       refine Xc 7 #[] #[] _ _ R R R R Z ?_
       rintro aA fp ⟨rfl, cO, ek⟩
       refine ⟨.inr cO, ?_⟩
       have aq : MS cg ([[a]] ++ [[b], d]) := e.pk [0, 1, 2] _ R
       have ay : ∀ s ∈ fl ([[a]] ++ [[b], d]), s ∈ fl [[a], [b], d] := Pk [0, 1, 2] _ R
       have a6 := Stp.call (LS := [[a], [b], d]) (res := []) (par := [[a]]) (R := [[b], d]) cO (fun t u => ay t (fl_left' (P := [[a]]) t u)) (FR.nil _) (NP.init _ _) (fun s A => ay s (fl_right' (P := [[a]]) s A))
       have a1 : ∀ s ∈ fl [[a], [b], d], s ∈ fl ([] ++ ([[a]] ++ [[b], d])) := Pk [0, 1, 2] _ R
       have f := a6.res a1
       have h := h.step f
       have n := cO.box n ((MS.outs (P := [[a]]) aq 0 R) _ mem1)
       have w := w.step f
       have x := x.step f
       have e := e.ev cO
       have a2 : ∀ t ∈ fl [[a]], a7.heap.size ≤ t := FR.mem (ls := [[a]]) (k.pk [0] _ R)
       have i := i.then cO (fun t u => .inr (a2 t u))
       have l := ek
       refine Xe R (t_alt _ R ?_ ?_)
       · refine Xb (vs := [(0, Vi ((O).length : Int))]) #[Vi ((O).length : Int)] 3 R R R (by kernel_rfl) (fun F a8 bA ao af cf => ?_)
         refine ⟨.inr (af.nil), ?_⟩
         have ab := e
         have f := Stp.ext (ls := [[a], [b], d]) af
         have l := af.box l nn
         have h := h.step f
         have n := af.box n nn
         have w := w.step f
         have x := x.step f
         have e := e.ev af
         have i := i.ext af
         have aZ : SlR eI a8 (fl [[a], [b], d]) (Ad F 0) 1 ([((O).length : Int)]) := ro_of_box ab bA ao R R (cells_at (cs := [Vi ((O).length : Int)]) (CellsOf.cons (c := [Vi ((O).length : Int)]) R CellsOf.nil))
         refine Xe R (t_alt _ R ?_ ?_)
         · refine Xb (vs := [(0, Vi aX.1)]) #[Vi aX.1] 3 R R R (by kernel_rfl) (fun L bi a4 ag Y bZ => ?_)
           refine ⟨.inr (Y.nil), ?_⟩
           have ab := e
           have f := Stp.ext (ls := [[a], [b], d]) Y
           have l := Y.box l nn
           have h := h.step f
           have n := Y.box n nn
           have w := w.step f
           have x := x.step f
           have aZ := aZ.step f
           have e := e.ev Y
           have i := i.ext Y
           have aO : SlR eI bi (fl [[a], [b], d]) (Ad L 0) 1 ([aX.1]) := ro_of_box ab a4 ag R R (cells_at (cs := [Vi aX.1]) (CellsOf.cons (c := [Vi aX.1]) R CellsOf.nil))
           refine Xe R (t_alt _ R ?_ ?_)
           · obtain ⟨U, A, m⟩ := Bs m
             have Z := bowl_Arrive_w bg ba bb O be bf bd (Ad F 0) 1 ([((O).length : Int)]) (Ad L 0) 1 ([aX.1]) _ bi (fl [[a], [b], d]) (MS.fold (P := []) e) (w.sub fl1) (x.sub fl1) (aZ.sub fl1) (aO.sub fl1) A
             refine Xc 6 #[] #[] _ _ R R R R Z ?_
             rintro aA dv ⟨an, bk, ac, bm, rfl, bo, cy, bQ, ah, ai⟩
             refine ⟨.inr (bo.nil), ?_⟩
             have f := Stp.call0 [[a], [b], d] [Bk an, Bk ac] [Bk an, Bk ac, [a], [b], d] bo bQ R
             have l := bo.box l nn
             have h := h.step f
             have n := bo.box n nn
             have e := MS.call0 [Bk an, Bk ac] [Bk an, Bk ac, [a], [b], d] e bo cy bQ R
             have al := FR.call0 [Bk an, Bk ac, [a], [b]] i.size bQ k R
             have i := i.ext bo
             have k := al
             have ah := OwnS.plain (M' := fl [Bk an, Bk ac, [a], [b], d]) (Pi _) ah
             have ai := OwnS.plain (M' := fl [Bk an, Bk ac, [a], [b], d]) (Pi _) ai
             have v := e.pk [1, 2, 3, 4] [Bk ac, [a], [b], d] R
             have o := Pk (ls := [Bk an, Bk ac, [a], [b], d]) [1, 2, 3, 4] [Bk ac, [a], [b], d] R
             have h := h.sub o
             have ah := ah.ro o (pick_out e 0 R [some 1, some 2, some 3, some 4] [Bk ac, [a], [b], d] R R)
             have ai := ai.sub o
             have e := v
             have k := k.pk [1, 2, 3] [Bk ac, [a], [b]] R
             have v := e.pk [1, 2, 3] [[a], [b], d] R
             have o := Pk (ls := [Bk ac, [a], [b], d]) [1, 2, 3] [[a], [b], d] R
             have h := h.sub o
             have ah := ah.sub o
             have ai := ai.ro o (pick_out e 0 R [some 1, some 2, some 3] [[a], [b], d] R R)
             have e := v
             have k := k.pk [1, 2] [[a], [b]] R
             refine Xu 4 [(31, .tuple #[.agg #[Vi U.1.1, Vl an U.1.2.1 bk, Vl ac U.1.2.2 bm], Vi U.2.1, Vi U.2.2]), (42, .agg #[Vi U.1.1, Vl an U.1.2.1 bk, Vl ac U.1.2.2 bm]), (43, Vi U.2.1), (44, Vi U.2.2)] (Xa (z := .agg #[Vi 0, Z0, Z0]) R R (by kernel_rfl) (fun bz cB bU bn bp ds => ?_))
             replace bn : cB.heap[bz]? = some (.cells #[Vi 0, Z0, Z0] 26 (0, 0)) := bn
             refine ⟨.inr (bp.nil), ?_⟩
             have f := Stp.box (ls := [[a], [b], d]) bp bU
             have l := bp.box l nn
             have h := h.step f
             have n := bp.box n nn
             have ah := ah.step f
             have ai := ai.step f
             have e := e.box bp bU bn
             have k := k.box i.size bU
             have i := i.ext bp
             obtain ⟨aG, aE, aB, G⟩ := Sa [Vi U.1.1, Vl an U.1.2.1 bk, Vl ac U.1.2.2 bm] tagg26 bn R R R
             refine Ys aG _ _ R aE (I1 ?_)
             have f := Stp.ev' (ls := [[bz], [a], [b], d]) G (Mf 0 R)
             have l := G.box l (e.apart 1 0 R R R _ mem1)
             have h := h.step f
             have n := G.box n (e.apart 2 0 R R R _ mem1)
             have ah := ah.step f
             have ai := ai.step f
             have e := e.ev G
             have i := i.then G (fun t u => .inr (k.at 0 R t u))
             have bn := aB
             refine Xu 2 [(7, Vi U.2.1), (8, Vi U.2.2)] (Xe R (t_stop (Kt (Cn [(3, Vp a 0), (4, Vp b 0), (5, Vi Q), (6, Vp bz 0), (8, Vi U.2.2)] (fun aS => ?_)))))
             refine Cq (Cs (Xu 2 [(45, Vi U.2.2), (46, .bool (U.2.2 != 0))] (Xk (Ci (U.2.2 != 0) R m (fun m => ?_) (fun m => ?_)))))
             · refine Cs (Xu 1 [(2, .bool false)] (Xk (Cr (Kr (Kb (Kr ?_))))))
               obtain rfl := Sj m
               have am := Sj az
               subst am
               have m := bs
               refine Kr (Kb (Kr (Rr (Rv [.bool false] ⟨R, T0⟩ ?_))))
               obtain rfl := Sj m
               exact ⟨R, i⟩
             refine Ck (Kt (Cp (Yl _ _ R (Ra 0 [Vi U.1.1, Vl an U.1.2.1 bk, Vl ac U.1.2.2 bm] tagg26 bn nn R) ?_)))
             obtain ⟨aH, aF, aC, S⟩ := Sa [Vi U.1.1, Vl an U.1.2.1 bk, Vl ac U.1.2.2 bm] tagg26 n R R R
             refine Ys aH _ _ R aF (I1 ?_)
             have f := Stp.ev' (ls := [[bz], [a], [b], d]) S (Mf 2 R)
             have l := S.box l (e.apart 1 2 R R R _ mem1)
             have h := h.step f
             have ah := ah.step f
             have ai := ai.step f
             have e := e.ev S
             have i := i.then S (fun t u => .inr (k.at 2 R t u))
             have n := aC
             refine Xe R (Kl (Kt (Cp (Xu 3 [(29, Vi Q), (30, Vi (i64.wrap (Q - 1))), (5, Vi (i64.wrap (Q - 1)))] (Xe R ?_)))))
             obtain rfl := Sj m
             have v := e.pk [1, 2, 3] [[a], [b], d] R
             have o := Pk (ls := [[bz], [a], [b], d]) [1, 2, 3] [[a], [b], d] R
             have h := h.sub o
             have ah := ah.sub o
             have ai := ai.sub o
             have e := v
             have k := k.pk [1, 2] [[a], [b]] R
             exact Kt ⟨(bj, aX.2, U.1.1, U.1.2.1, U.1.2.2, i64.wrap (Q - 1), an, bk, ac, bm), ⟨R, R, R, T0⟩, ⟨az, i, e, k, h, l, ah, ai, n⟩, Ns _⟩
           refine t_alt _ R ?_ ?_
           · refine Xa (z := .agg #[Vi 0, Z0, Z0]) R R (by kernel_rfl) (fun H ap aD ae E bH => ?_)
             replace ae : ap.heap[H]? = some (.cells #[Vi 0, Z0, Z0] 26 (0, 0)) := ae
             refine ⟨.inr (E.nil), ?_⟩
             have f := Stp.box (ls := [[a], [b], d]) E aD
             have l := E.box l nn
             have h := h.step f
             have n := E.box n nn
             have w := w.step f
             have x := x.step f
             have aZ := aZ.step f
             have aO := aO.step f
             have e := e.box E aD ae
             have k := k.box i.size aD
             have i := i.ext E
             obtain ⟨g, A, m⟩ := Bs m
             have Z := bowl_Arrive_w bg ba bb O be bf bd (Ad F 0) 1 ([((O).length : Int)]) (Ad L 0) 1 ([aX.1]) _ ap (fl [[H], [a], [b], d]) (MS.fold (P := []) e) (w.sub fl1) (x.sub fl1) (aZ.sub fl1) (aO.sub fl1) A
             refine Xc 6 #[] #[] _ _ R R R R Z ?_
             rintro aA bJ ⟨p, I, j, J, rfl, C, aY, ad, q, r⟩
             refine ⟨.inr (C.nil), ?_⟩
             have f := Stp.call0 [[H], [a], [b], d] [Bk p, Bk j] [Bk p, Bk j, [H], [a], [b], d] C ad R
             have l := C.box l nn
             have h := h.step f
             have n := C.box n nn
             have ae := C.box ae nn
             have e := MS.call0 [Bk p, Bk j] [Bk p, Bk j, [H], [a], [b], d] e C aY ad R
             have al := FR.call0 [Bk p, Bk j, [H], [a], [b]] i.size ad k R
             have i := i.ext C
             have k := al
             have q := OwnS.plain (M' := fl [Bk p, Bk j, [H], [a], [b], d]) (Pi _) q
             have r := OwnS.plain (M' := fl [Bk p, Bk j, [H], [a], [b], d]) (Pi _) r
             have v := e.pk [1, 2, 3, 4, 5] [Bk j, [H], [a], [b], d] R
             have o := Pk (ls := [Bk p, Bk j, [H], [a], [b], d]) [1, 2, 3, 4, 5] [Bk j, [H], [a], [b], d] R
             have h := h.sub o
             have q := q.ro o (pick_out e 0 R [some 1, some 2, some 3, some 4, some 5] [Bk j, [H], [a], [b], d] R R)
             have r := r.sub o
             have e := v
             have k := k.pk [1, 2, 3, 4] [Bk j, [H], [a], [b]] R
             have v := e.pk [1, 2, 3, 4] [[H], [a], [b], d] R
             have o := Pk (ls := [Bk j, [H], [a], [b], d]) [1, 2, 3, 4] [[H], [a], [b], d] R
             have h := h.sub o
             have q := q.sub o
             have r := r.ro o (pick_out e 0 R [some 1, some 2, some 3, some 4] [[H], [a], [b], d] R R)
             have e := v
             have k := k.pk [1, 2, 3] [[H], [a], [b]] R
             refine Xu 4 [(31, .tuple #[.agg #[Vi g.1.1, Vl p g.1.2.1 I, Vl j g.1.2.2 J], Vi g.2.1, Vi g.2.2]), (42, .agg #[Vi g.1.1, Vl p g.1.2.1 I, Vl j g.1.2.2 J]), (43, Vi g.2.1), (44, Vi g.2.2)] ?_
             obtain ⟨aG, aE, aB, G⟩ := Sa [Vi g.1.1, Vl p g.1.2.1 I, Vl j g.1.2.2 J] tagg26 ae R R R
             refine Ys aG _ _ R aE (I1 ?_)
             have f := Stp.ev' (ls := [[H], [a], [b], d]) G (Mf 0 R)
             have l := G.box l (e.apart 1 0 R R R _ mem1)
             have h := h.step f
             have n := G.box n (e.apart 2 0 R R R _ mem1)
             have q := q.step f
             have r := r.step f
             have e := e.ev G
             have i := i.then G (fun t u => .inr (k.at 0 R t u))
             have ae := aB
             refine Xu 2 [(7, Vi g.2.1), (8, Vi g.2.2)] (Xe R (t_stop (Kt (Cn [(3, Vp a 0), (4, Vp b 0), (5, Vi Q), (6, Vp H 0), (8, Vi g.2.2)] (fun aS => ?_)))))
             refine Cq (Cs (Xu 2 [(45, Vi g.2.2), (46, .bool (g.2.2 != 0))] (Xk (Ci (g.2.2 != 0) R m (fun m => ?_) (fun m => ?_)))))
             · refine Cs (Xu 1 [(2, .bool false)] (Xk (Cr (Kr (Kb (Kr ?_))))))
               obtain rfl := Sj m
               have am := Sj az
               subst am
               have m := bs
               refine Kr (Kb (Kr (Rr (Rv [.bool false] ⟨R, T0⟩ ?_))))
               obtain rfl := Sj m
               exact ⟨R, i⟩
             refine Ck (Kt (Cp (Yl _ _ R (Ra 0 [Vi g.1.1, Vl p g.1.2.1 I, Vl j g.1.2.2 J] tagg26 ae nn R) ?_)))
             obtain ⟨aH, aF, aC, S⟩ := Sa [Vi g.1.1, Vl p g.1.2.1 I, Vl j g.1.2.2 J] tagg26 n R R R
             refine Ys aH _ _ R aF (I1 ?_)
             have f := Stp.ev' (ls := [[H], [a], [b], d]) S (Mf 2 R)
             have l := S.box l (e.apart 1 2 R R R _ mem1)
             have h := h.step f
             have q := q.step f
             have r := r.step f
             have e := e.ev S
             have i := i.then S (fun t u => .inr (k.at 2 R t u))
             have n := aC
             refine Xe R (Kl (Kt (Cp (Xu 3 [(29, Vi Q), (30, Vi (i64.wrap (Q - 1))), (5, Vi (i64.wrap (Q - 1)))] (Xe R ?_)))))
             obtain rfl := Sj m
             have v := e.pk [1, 2, 3] [[a], [b], d] R
             have o := Pk (ls := [[H], [a], [b], d]) [1, 2, 3] [[a], [b], d] R
             have h := h.sub o
             have q := q.sub o
             have r := r.sub o
             have e := v
             have k := k.pk [1, 2] [[a], [b]] R
             exact Kt ⟨(bj, aX.2, g.1.1, g.1.2.1, g.1.2.2, i64.wrap (Q - 1), p, I, j, J), ⟨R, R, R, T0⟩, ⟨az, i, e, k, h, l, q, r, n⟩, Ns _⟩
           exact t_none
         refine t_alt _ R ?_ ?_
         · refine Xa (z := .agg #[Vi 0, Z0, Z0]) R R (by kernel_rfl) (fun L bi a4 ag Y bZ => ?_)
           replace ag : bi.heap[L]? = some (.cells #[Vi 0, Z0, Z0] 26 (0, 0)) := ag
           refine ⟨.inr (Y.nil), ?_⟩
           have f := Stp.box (ls := [[a], [b], d]) Y a4
           have l := Y.box l nn
           have h := h.step f
           have n := Y.box n nn
           have w := w.step f
           have x := x.step f
           have aZ := aZ.step f
           have e := e.box Y a4 ag
           have k := k.box i.size a4
           have i := i.ext Y
           refine Xb (vs := [(0, Vi aX.1)]) #[Vi aX.1] 3 R R R (by kernel_rfl) (fun H ap aD ae E bH => ?_)
           refine ⟨.inr (E.nil), ?_⟩
           have ab := e
           have f := Stp.ext (ls := [[L], [a], [b], d]) E
           have l := E.box l nn
           have h := h.step f
           have n := E.box n nn
           have w := w.step f
           have x := x.step f
           have aZ := aZ.step f
           have ag := E.box ag nn
           have e := e.ev E
           have i := i.ext E
           have bh : SlR eI ap (fl [[L], [a], [b], d]) (Ad H 0) 1 ([aX.1]) := ro_of_box ab aD ae R R (cells_at (cs := [Vi aX.1]) (CellsOf.cons (c := [Vi aX.1]) R CellsOf.nil))
           obtain ⟨g, A, m⟩ := Bs m
           have Z := bowl_Arrive_w bg ba bb O be bf bd (Ad F 0) 1 ([((O).length : Int)]) (Ad H 0) 1 ([aX.1]) _ ap (fl [[L], [a], [b], d]) (MS.fold (P := []) e) (w.sub fl1) (x.sub fl1) (aZ.sub fl1) (bh.sub fl1) A
           refine Xc 6 #[] #[] _ _ R R R R Z ?_
           rintro aA bJ ⟨p, I, j, J, rfl, C, aY, ad, q, r⟩
           refine ⟨.inr (C.nil), ?_⟩
           have f := Stp.call0 [[L], [a], [b], d] [Bk p, Bk j] [Bk p, Bk j, [L], [a], [b], d] C ad R
           have l := C.box l nn
           have h := h.step f
           have n := C.box n nn
           have ag := C.box ag nn
           have e := MS.call0 [Bk p, Bk j] [Bk p, Bk j, [L], [a], [b], d] e C aY ad R
           have al := FR.call0 [Bk p, Bk j, [L], [a], [b]] i.size ad k R
           have i := i.ext C
           have k := al
           have q := OwnS.plain (M' := fl [Bk p, Bk j, [L], [a], [b], d]) (Pi _) q
           have r := OwnS.plain (M' := fl [Bk p, Bk j, [L], [a], [b], d]) (Pi _) r
           have v := e.pk [1, 2, 3, 4, 5] [Bk j, [L], [a], [b], d] R
           have o := Pk (ls := [Bk p, Bk j, [L], [a], [b], d]) [1, 2, 3, 4, 5] [Bk j, [L], [a], [b], d] R
           have h := h.sub o
           have q := q.ro o (pick_out e 0 R [some 1, some 2, some 3, some 4, some 5] [Bk j, [L], [a], [b], d] R R)
           have r := r.sub o
           have e := v
           have k := k.pk [1, 2, 3, 4] [Bk j, [L], [a], [b]] R
           have v := e.pk [1, 2, 3, 4] [[L], [a], [b], d] R
           have o := Pk (ls := [Bk j, [L], [a], [b], d]) [1, 2, 3, 4] [[L], [a], [b], d] R
           have h := h.sub o
           have q := q.sub o
           have r := r.ro o (pick_out e 0 R [some 1, some 2, some 3, some 4] [[L], [a], [b], d] R R)
           have e := v
           have k := k.pk [1, 2, 3] [[L], [a], [b]] R
           refine Xu 4 [(31, .tuple #[.agg #[Vi g.1.1, Vl p g.1.2.1 I, Vl j g.1.2.2 J], Vi g.2.1, Vi g.2.2]), (42, .agg #[Vi g.1.1, Vl p g.1.2.1 I, Vl j g.1.2.2 J]), (43, Vi g.2.1), (44, Vi g.2.2)] ?_
           obtain ⟨aG, aE, aB, G⟩ := Sa [Vi g.1.1, Vl p g.1.2.1 I, Vl j g.1.2.2 J] tagg26 ag R R R
           refine Ys aG _ _ R aE (I1 ?_)
           have f := Stp.ev' (ls := [[L], [a], [b], d]) G (Mf 0 R)
           have l := G.box l (e.apart 1 0 R R R _ mem1)
           have h := h.step f
           have n := G.box n (e.apart 2 0 R R R _ mem1)
           have q := q.step f
           have r := r.step f
           have e := e.ev G
           have i := i.then G (fun t u => .inr (k.at 0 R t u))
           have ag := aB
           refine Xu 2 [(7, Vi g.2.1), (8, Vi g.2.2)] (Xe R (t_stop (Kt (Cn [(3, Vp a 0), (4, Vp b 0), (5, Vi Q), (6, Vp L 0), (8, Vi g.2.2)] (fun aS => ?_)))))
           refine Cq (Cs (Xu 2 [(45, Vi g.2.2), (46, .bool (g.2.2 != 0))] (Xk (Ci (g.2.2 != 0) R m (fun m => ?_) (fun m => ?_)))))
           · refine Cs (Xu 1 [(2, .bool false)] (Xk (Cr (Kr (Kb (Kr ?_))))))
             obtain rfl := Sj m
             have am := Sj az
             subst am
             have m := bs
             refine Kr (Kb (Kr (Rr (Rv [.bool false] ⟨R, T0⟩ ?_))))
             obtain rfl := Sj m
             exact ⟨R, i⟩
           refine Ck (Kt (Cp (Yl _ _ R (Ra 0 [Vi g.1.1, Vl p g.1.2.1 I, Vl j g.1.2.2 J] tagg26 ag nn R) ?_)))
           obtain ⟨aH, aF, aC, S⟩ := Sa [Vi g.1.1, Vl p g.1.2.1 I, Vl j g.1.2.2 J] tagg26 n R R R
           refine Ys aH _ _ R aF (I1 ?_)
           have f := Stp.ev' (ls := [[L], [a], [b], d]) S (Mf 2 R)
           have l := S.box l (e.apart 1 2 R R R _ mem1)
           have h := h.step f
           have q := q.step f
           have r := r.step f
           have e := e.ev S
           have i := i.then S (fun t u => .inr (k.at 2 R t u))
           have n := aC
           refine Xe R (Kl (Kt (Cp (Xu 3 [(29, Vi Q), (30, Vi (i64.wrap (Q - 1))), (5, Vi (i64.wrap (Q - 1)))] (Xe R ?_)))))
           obtain rfl := Sj m
           have v := e.pk [1, 2, 3] [[a], [b], d] R
           have o := Pk (ls := [[L], [a], [b], d]) [1, 2, 3] [[a], [b], d] R
           have h := h.sub o
           have q := q.sub o
           have r := r.sub o
           have e := v
           have k := k.pk [1, 2] [[a], [b]] R
           exact Kt ⟨(bj, aX.2, g.1.1, g.1.2.1, g.1.2.2, i64.wrap (Q - 1), p, I, j, J), ⟨R, R, R, T0⟩, ⟨az, i, e, k, h, l, q, r, n⟩, Ns _⟩
         exact t_none
       refine t_alt _ R ?_ ?_
       · refine Xb (vs := [(0, Vi aX.1)]) #[Vi aX.1] 3 R R R (by kernel_rfl) (fun F a8 bA ao af cf => ?_)
         refine ⟨.inr (af.nil), ?_⟩
         have ab := e
         have f := Stp.ext (ls := [[a], [b], d]) af
         have l := af.box l nn
         have h := h.step f
         have n := af.box n nn
         have w := w.step f
         have x := x.step f
         have e := e.ev af
         have i := i.ext af
         have aZ : SlR eI a8 (fl [[a], [b], d]) (Ad F 0) 1 ([aX.1]) := ro_of_box ab bA ao R R (cells_at (cs := [Vi aX.1]) (CellsOf.cons (c := [Vi aX.1]) R CellsOf.nil))
         refine Xe R (t_alt _ R ?_ ?_)
         · refine Xb (vs := [(0, Vi ((O).length : Int))]) #[Vi ((O).length : Int)] 3 R R R (by kernel_rfl) (fun L bi a4 ag Y bZ => ?_)
           refine ⟨.inr (Y.nil), ?_⟩
           have ab := e
           have f := Stp.ext (ls := [[a], [b], d]) Y
           have l := Y.box l nn
           have h := h.step f
           have n := Y.box n nn
           have w := w.step f
           have x := x.step f
           have aZ := aZ.step f
           have e := e.ev Y
           have i := i.ext Y
           have aO : SlR eI bi (fl [[a], [b], d]) (Ad L 0) 1 ([((O).length : Int)]) := ro_of_box ab a4 ag R R (cells_at (cs := [Vi ((O).length : Int)]) (CellsOf.cons (c := [Vi ((O).length : Int)]) R CellsOf.nil))
           refine Xe R (t_alt _ R ?_ ?_)
           · obtain ⟨U, A, m⟩ := Bs m
             have Z := bowl_Arrive_w bg ba bb O be bf bd (Ad L 0) 1 ([((O).length : Int)]) (Ad F 0) 1 ([aX.1]) _ bi (fl [[a], [b], d]) (MS.fold (P := []) e) (w.sub fl1) (x.sub fl1) (aO.sub fl1) (aZ.sub fl1) A
             refine Xc 6 #[] #[] _ _ R R R R Z ?_
             rintro aA dv ⟨an, bk, ac, bm, rfl, bo, cy, bQ, ah, ai⟩
             refine ⟨.inr (bo.nil), ?_⟩
             have f := Stp.call0 [[a], [b], d] [Bk an, Bk ac] [Bk an, Bk ac, [a], [b], d] bo bQ R
             have l := bo.box l nn
             have h := h.step f
             have n := bo.box n nn
             have e := MS.call0 [Bk an, Bk ac] [Bk an, Bk ac, [a], [b], d] e bo cy bQ R
             have al := FR.call0 [Bk an, Bk ac, [a], [b]] i.size bQ k R
             have i := i.ext bo
             have k := al
             have ah := OwnS.plain (M' := fl [Bk an, Bk ac, [a], [b], d]) (Pi _) ah
             have ai := OwnS.plain (M' := fl [Bk an, Bk ac, [a], [b], d]) (Pi _) ai
             have v := e.pk [1, 2, 3, 4] [Bk ac, [a], [b], d] R
             have o := Pk (ls := [Bk an, Bk ac, [a], [b], d]) [1, 2, 3, 4] [Bk ac, [a], [b], d] R
             have h := h.sub o
             have ah := ah.ro o (pick_out e 0 R [some 1, some 2, some 3, some 4] [Bk ac, [a], [b], d] R R)
             have ai := ai.sub o
             have e := v
             have k := k.pk [1, 2, 3] [Bk ac, [a], [b]] R
             have v := e.pk [1, 2, 3] [[a], [b], d] R
             have o := Pk (ls := [Bk ac, [a], [b], d]) [1, 2, 3] [[a], [b], d] R
             have h := h.sub o
             have ah := ah.sub o
             have ai := ai.ro o (pick_out e 0 R [some 1, some 2, some 3] [[a], [b], d] R R)
             have e := v
             have k := k.pk [1, 2] [[a], [b]] R
             refine Xu 4 [(31, .tuple #[.agg #[Vi U.1.1, Vl an U.1.2.1 bk, Vl ac U.1.2.2 bm], Vi U.2.1, Vi U.2.2]), (42, .agg #[Vi U.1.1, Vl an U.1.2.1 bk, Vl ac U.1.2.2 bm]), (43, Vi U.2.1), (44, Vi U.2.2)] (Xa (z := .agg #[Vi 0, Z0, Z0]) R R (by kernel_rfl) (fun bz cB bU bn bp ds => ?_))
             replace bn : cB.heap[bz]? = some (.cells #[Vi 0, Z0, Z0] 26 (0, 0)) := bn
             refine ⟨.inr (bp.nil), ?_⟩
             have f := Stp.box (ls := [[a], [b], d]) bp bU
             have l := bp.box l nn
             have h := h.step f
             have n := bp.box n nn
             have ah := ah.step f
             have ai := ai.step f
             have e := e.box bp bU bn
             have k := k.box i.size bU
             have i := i.ext bp
             obtain ⟨aG, aE, aB, G⟩ := Sa [Vi U.1.1, Vl an U.1.2.1 bk, Vl ac U.1.2.2 bm] tagg26 bn R R R
             refine Ys aG _ _ R aE (I1 ?_)
             have f := Stp.ev' (ls := [[bz], [a], [b], d]) G (Mf 0 R)
             have l := G.box l (e.apart 1 0 R R R _ mem1)
             have h := h.step f
             have n := G.box n (e.apart 2 0 R R R _ mem1)
             have ah := ah.step f
             have ai := ai.step f
             have e := e.ev G
             have i := i.then G (fun t u => .inr (k.at 0 R t u))
             have bn := aB
             refine Xu 2 [(7, Vi U.2.1), (8, Vi U.2.2)] (Xe R (t_stop (Kt (Cn [(3, Vp a 0), (4, Vp b 0), (5, Vi Q), (6, Vp bz 0), (8, Vi U.2.2)] (fun aS => ?_)))))
             refine Cq (Cs (Xu 2 [(45, Vi U.2.2), (46, .bool (U.2.2 != 0))] (Xk (Ci (U.2.2 != 0) R m (fun m => ?_) (fun m => ?_)))))
             · refine Cs (Xu 1 [(2, .bool false)] (Xk (Cr (Kr (Kb (Kr ?_))))))
               obtain rfl := Sj m
               have am := Sj az
               subst am
               have m := bs
               refine Kr (Kb (Kr (Rr (Rv [.bool false] ⟨R, T0⟩ ?_))))
               obtain rfl := Sj m
               exact ⟨R, i⟩
             refine Ck (Kt (Cp (Yl _ _ R (Ra 0 [Vi U.1.1, Vl an U.1.2.1 bk, Vl ac U.1.2.2 bm] tagg26 bn nn R) ?_)))
             obtain ⟨aH, aF, aC, S⟩ := Sa [Vi U.1.1, Vl an U.1.2.1 bk, Vl ac U.1.2.2 bm] tagg26 n R R R
             refine Ys aH _ _ R aF (I1 ?_)
             have f := Stp.ev' (ls := [[bz], [a], [b], d]) S (Mf 2 R)
             have l := S.box l (e.apart 1 2 R R R _ mem1)
             have h := h.step f
             have ah := ah.step f
             have ai := ai.step f
             have e := e.ev S
             have i := i.then S (fun t u => .inr (k.at 2 R t u))
             have n := aC
             refine Xe R (Kl (Kt (Cp (Xu 3 [(29, Vi Q), (30, Vi (i64.wrap (Q - 1))), (5, Vi (i64.wrap (Q - 1)))] (Xe R ?_)))))
             obtain rfl := Sj m
             have v := e.pk [1, 2, 3] [[a], [b], d] R
             have o := Pk (ls := [[bz], [a], [b], d]) [1, 2, 3] [[a], [b], d] R
             have h := h.sub o
             have ah := ah.sub o
             have ai := ai.sub o
             have e := v
             have k := k.pk [1, 2] [[a], [b]] R
             exact Kt ⟨(bj, aX.2, U.1.1, U.1.2.1, U.1.2.2, i64.wrap (Q - 1), an, bk, ac, bm), ⟨R, R, R, T0⟩, ⟨az, i, e, k, h, l, ah, ai, n⟩, Ns _⟩
           refine t_alt _ R ?_ ?_
           · refine Xa (z := .agg #[Vi 0, Z0, Z0]) R R (by kernel_rfl) (fun H ap aD ae E bH => ?_)
             replace ae : ap.heap[H]? = some (.cells #[Vi 0, Z0, Z0] 26 (0, 0)) := ae
             refine ⟨.inr (E.nil), ?_⟩
             have f := Stp.box (ls := [[a], [b], d]) E aD
             have l := E.box l nn
             have h := h.step f
             have n := E.box n nn
             have w := w.step f
             have x := x.step f
             have aZ := aZ.step f
             have aO := aO.step f
             have e := e.box E aD ae
             have k := k.box i.size aD
             have i := i.ext E
             obtain ⟨g, A, m⟩ := Bs m
             have Z := bowl_Arrive_w bg ba bb O be bf bd (Ad L 0) 1 ([((O).length : Int)]) (Ad F 0) 1 ([aX.1]) _ ap (fl [[H], [a], [b], d]) (MS.fold (P := []) e) (w.sub fl1) (x.sub fl1) (aO.sub fl1) (aZ.sub fl1) A
             refine Xc 6 #[] #[] _ _ R R R R Z ?_
             rintro aA bJ ⟨p, I, j, J, rfl, C, aY, ad, q, r⟩
             refine ⟨.inr (C.nil), ?_⟩
             have f := Stp.call0 [[H], [a], [b], d] [Bk p, Bk j] [Bk p, Bk j, [H], [a], [b], d] C ad R
             have l := C.box l nn
             have h := h.step f
             have n := C.box n nn
             have ae := C.box ae nn
             have e := MS.call0 [Bk p, Bk j] [Bk p, Bk j, [H], [a], [b], d] e C aY ad R
             have al := FR.call0 [Bk p, Bk j, [H], [a], [b]] i.size ad k R
             have i := i.ext C
             have k := al
             have q := OwnS.plain (M' := fl [Bk p, Bk j, [H], [a], [b], d]) (Pi _) q
             have r := OwnS.plain (M' := fl [Bk p, Bk j, [H], [a], [b], d]) (Pi _) r
             have v := e.pk [1, 2, 3, 4, 5] [Bk j, [H], [a], [b], d] R
             have o := Pk (ls := [Bk p, Bk j, [H], [a], [b], d]) [1, 2, 3, 4, 5] [Bk j, [H], [a], [b], d] R
             have h := h.sub o
             have q := q.ro o (pick_out e 0 R [some 1, some 2, some 3, some 4, some 5] [Bk j, [H], [a], [b], d] R R)
             have r := r.sub o
             have e := v
             have k := k.pk [1, 2, 3, 4] [Bk j, [H], [a], [b]] R
             have v := e.pk [1, 2, 3, 4] [[H], [a], [b], d] R
             have o := Pk (ls := [Bk j, [H], [a], [b], d]) [1, 2, 3, 4] [[H], [a], [b], d] R
             have h := h.sub o
             have q := q.sub o
             have r := r.ro o (pick_out e 0 R [some 1, some 2, some 3, some 4] [[H], [a], [b], d] R R)
             have e := v
             have k := k.pk [1, 2, 3] [[H], [a], [b]] R
             refine Xu 4 [(31, .tuple #[.agg #[Vi g.1.1, Vl p g.1.2.1 I, Vl j g.1.2.2 J], Vi g.2.1, Vi g.2.2]), (42, .agg #[Vi g.1.1, Vl p g.1.2.1 I, Vl j g.1.2.2 J]), (43, Vi g.2.1), (44, Vi g.2.2)] ?_
             obtain ⟨aG, aE, aB, G⟩ := Sa [Vi g.1.1, Vl p g.1.2.1 I, Vl j g.1.2.2 J] tagg26 ae R R R
             refine Ys aG _ _ R aE (I1 ?_)
             have f := Stp.ev' (ls := [[H], [a], [b], d]) G (Mf 0 R)
             have l := G.box l (e.apart 1 0 R R R _ mem1)
             have h := h.step f
             have n := G.box n (e.apart 2 0 R R R _ mem1)
             have q := q.step f
             have r := r.step f
             have e := e.ev G
             have i := i.then G (fun t u => .inr (k.at 0 R t u))
             have ae := aB
             refine Xu 2 [(7, Vi g.2.1), (8, Vi g.2.2)] (Xe R (t_stop (Kt (Cn [(3, Vp a 0), (4, Vp b 0), (5, Vi Q), (6, Vp H 0), (8, Vi g.2.2)] (fun aS => ?_)))))
             refine Cq (Cs (Xu 2 [(45, Vi g.2.2), (46, .bool (g.2.2 != 0))] (Xk (Ci (g.2.2 != 0) R m (fun m => ?_) (fun m => ?_)))))
             · refine Cs (Xu 1 [(2, .bool false)] (Xk (Cr (Kr (Kb (Kr ?_))))))
               obtain rfl := Sj m
               have am := Sj az
               subst am
               have m := bs
               refine Kr (Kb (Kr (Rr (Rv [.bool false] ⟨R, T0⟩ ?_))))
               obtain rfl := Sj m
               exact ⟨R, i⟩
             refine Ck (Kt (Cp (Yl _ _ R (Ra 0 [Vi g.1.1, Vl p g.1.2.1 I, Vl j g.1.2.2 J] tagg26 ae nn R) ?_)))
             obtain ⟨aH, aF, aC, S⟩ := Sa [Vi g.1.1, Vl p g.1.2.1 I, Vl j g.1.2.2 J] tagg26 n R R R
             refine Ys aH _ _ R aF (I1 ?_)
             have f := Stp.ev' (ls := [[H], [a], [b], d]) S (Mf 2 R)
             have l := S.box l (e.apart 1 2 R R R _ mem1)
             have h := h.step f
             have q := q.step f
             have r := r.step f
             have e := e.ev S
             have i := i.then S (fun t u => .inr (k.at 2 R t u))
             have n := aC
             refine Xe R (Kl (Kt (Cp (Xu 3 [(29, Vi Q), (30, Vi (i64.wrap (Q - 1))), (5, Vi (i64.wrap (Q - 1)))] (Xe R ?_)))))
             obtain rfl := Sj m
             have v := e.pk [1, 2, 3] [[a], [b], d] R
             have o := Pk (ls := [[H], [a], [b], d]) [1, 2, 3] [[a], [b], d] R
             have h := h.sub o
             have q := q.sub o
             have r := r.sub o
             have e := v
             have k := k.pk [1, 2] [[a], [b]] R
             exact Kt ⟨(bj, aX.2, g.1.1, g.1.2.1, g.1.2.2, i64.wrap (Q - 1), p, I, j, J), ⟨R, R, R, T0⟩, ⟨az, i, e, k, h, l, q, r, n⟩, Ns _⟩
           exact t_none
         refine t_alt _ R ?_ ?_
         · refine Xa (z := .agg #[Vi 0, Z0, Z0]) R R (by kernel_rfl) (fun L bi a4 ag Y bZ => ?_)
           replace ag : bi.heap[L]? = some (.cells #[Vi 0, Z0, Z0] 26 (0, 0)) := ag
           refine ⟨.inr (Y.nil), ?_⟩
           have f := Stp.box (ls := [[a], [b], d]) Y a4
           have l := Y.box l nn
           have h := h.step f
           have n := Y.box n nn
           have w := w.step f
           have x := x.step f
           have aZ := aZ.step f
           have e := e.box Y a4 ag
           have k := k.box i.size a4
           have i := i.ext Y
           refine Xb (vs := [(0, Vi ((O).length : Int))]) #[Vi ((O).length : Int)] 3 R R R (by kernel_rfl) (fun H ap aD ae E bH => ?_)
           refine ⟨.inr (E.nil), ?_⟩
           have ab := e
           have f := Stp.ext (ls := [[L], [a], [b], d]) E
           have l := E.box l nn
           have h := h.step f
           have n := E.box n nn
           have w := w.step f
           have x := x.step f
           have aZ := aZ.step f
           have ag := E.box ag nn
           have e := e.ev E
           have i := i.ext E
           have bh : SlR eI ap (fl [[L], [a], [b], d]) (Ad H 0) 1 ([((O).length : Int)]) := ro_of_box ab aD ae R R (cells_at (cs := [Vi ((O).length : Int)]) (CellsOf.cons (c := [Vi ((O).length : Int)]) R CellsOf.nil))
           obtain ⟨g, A, m⟩ := Bs m
           have Z := bowl_Arrive_w bg ba bb O be bf bd (Ad H 0) 1 ([((O).length : Int)]) (Ad F 0) 1 ([aX.1]) _ ap (fl [[L], [a], [b], d]) (MS.fold (P := []) e) (w.sub fl1) (x.sub fl1) (bh.sub fl1) (aZ.sub fl1) A
           refine Xc 6 #[] #[] _ _ R R R R Z ?_
           rintro aA bJ ⟨p, I, j, J, rfl, C, aY, ad, q, r⟩
           refine ⟨.inr (C.nil), ?_⟩
           have f := Stp.call0 [[L], [a], [b], d] [Bk p, Bk j] [Bk p, Bk j, [L], [a], [b], d] C ad R
           have l := C.box l nn
           have h := h.step f
           have n := C.box n nn
           have ag := C.box ag nn
           have e := MS.call0 [Bk p, Bk j] [Bk p, Bk j, [L], [a], [b], d] e C aY ad R
           have al := FR.call0 [Bk p, Bk j, [L], [a], [b]] i.size ad k R
           have i := i.ext C
           have k := al
           have q := OwnS.plain (M' := fl [Bk p, Bk j, [L], [a], [b], d]) (Pi _) q
           have r := OwnS.plain (M' := fl [Bk p, Bk j, [L], [a], [b], d]) (Pi _) r
           have v := e.pk [1, 2, 3, 4, 5] [Bk j, [L], [a], [b], d] R
           have o := Pk (ls := [Bk p, Bk j, [L], [a], [b], d]) [1, 2, 3, 4, 5] [Bk j, [L], [a], [b], d] R
           have h := h.sub o
           have q := q.ro o (pick_out e 0 R [some 1, some 2, some 3, some 4, some 5] [Bk j, [L], [a], [b], d] R R)
           have r := r.sub o
           have e := v
           have k := k.pk [1, 2, 3, 4] [Bk j, [L], [a], [b]] R
           have v := e.pk [1, 2, 3, 4] [[L], [a], [b], d] R
           have o := Pk (ls := [Bk j, [L], [a], [b], d]) [1, 2, 3, 4] [[L], [a], [b], d] R
           have h := h.sub o
           have q := q.sub o
           have r := r.ro o (pick_out e 0 R [some 1, some 2, some 3, some 4] [[L], [a], [b], d] R R)
           have e := v
           have k := k.pk [1, 2, 3] [[L], [a], [b]] R
           refine Xu 4 [(31, .tuple #[.agg #[Vi g.1.1, Vl p g.1.2.1 I, Vl j g.1.2.2 J], Vi g.2.1, Vi g.2.2]), (42, .agg #[Vi g.1.1, Vl p g.1.2.1 I, Vl j g.1.2.2 J]), (43, Vi g.2.1), (44, Vi g.2.2)] ?_
           obtain ⟨aG, aE, aB, G⟩ := Sa [Vi g.1.1, Vl p g.1.2.1 I, Vl j g.1.2.2 J] tagg26 ag R R R
           refine Ys aG _ _ R aE (I1 ?_)
           have f := Stp.ev' (ls := [[L], [a], [b], d]) G (Mf 0 R)
           have l := G.box l (e.apart 1 0 R R R _ mem1)
           have h := h.step f
           have n := G.box n (e.apart 2 0 R R R _ mem1)
           have q := q.step f
           have r := r.step f
           have e := e.ev G
           have i := i.then G (fun t u => .inr (k.at 0 R t u))
           have ag := aB
           refine Xu 2 [(7, Vi g.2.1), (8, Vi g.2.2)] (Xe R (t_stop (Kt (Cn [(3, Vp a 0), (4, Vp b 0), (5, Vi Q), (6, Vp L 0), (8, Vi g.2.2)] (fun aS => ?_)))))
           refine Cq (Cs (Xu 2 [(45, Vi g.2.2), (46, .bool (g.2.2 != 0))] (Xk (Ci (g.2.2 != 0) R m (fun m => ?_) (fun m => ?_)))))
           · refine Cs (Xu 1 [(2, .bool false)] (Xk (Cr (Kr (Kb (Kr ?_))))))
             obtain rfl := Sj m
             have am := Sj az
             subst am
             have m := bs
             refine Kr (Kb (Kr (Rr (Rv [.bool false] ⟨R, T0⟩ ?_))))
             obtain rfl := Sj m
             exact ⟨R, i⟩
           refine Ck (Kt (Cp (Yl _ _ R (Ra 0 [Vi g.1.1, Vl p g.1.2.1 I, Vl j g.1.2.2 J] tagg26 ag nn R) ?_)))
           obtain ⟨aH, aF, aC, S⟩ := Sa [Vi g.1.1, Vl p g.1.2.1 I, Vl j g.1.2.2 J] tagg26 n R R R
           refine Ys aH _ _ R aF (I1 ?_)
           have f := Stp.ev' (ls := [[L], [a], [b], d]) S (Mf 2 R)
           have l := S.box l (e.apart 1 2 R R R _ mem1)
           have h := h.step f
           have q := q.step f
           have r := r.step f
           have e := e.ev S
           have i := i.then S (fun t u => .inr (k.at 2 R t u))
           have n := aC
           refine Xe R (Kl (Kt (Cp (Xu 3 [(29, Vi Q), (30, Vi (i64.wrap (Q - 1))), (5, Vi (i64.wrap (Q - 1)))] (Xe R ?_)))))
           obtain rfl := Sj m
           have v := e.pk [1, 2, 3] [[a], [b], d] R
           have o := Pk (ls := [[L], [a], [b], d]) [1, 2, 3] [[a], [b], d] R
           have h := h.sub o
           have q := q.sub o
           have r := r.sub o
           have e := v
           have k := k.pk [1, 2] [[a], [b]] R
           exact Kt ⟨(bj, aX.2, g.1.1, g.1.2.1, g.1.2.2, i64.wrap (Q - 1), p, I, j, J), ⟨R, R, R, T0⟩, ⟨az, i, e, k, h, l, q, r, n⟩, Ns _⟩
         exact t_none
       refine t_alt _ R ?_ ?_
       · refine Xa (z := .agg #[Vi 0, Z0, Z0]) R R (by kernel_rfl) (fun F a8 bA ao af cf => ?_)
         replace ao : a8.heap[F]? = some (.cells #[Vi 0, Z0, Z0] 26 (0, 0)) := ao
         refine ⟨.inr (af.nil), ?_⟩
         have f := Stp.box (ls := [[a], [b], d]) af bA
         have l := af.box l nn
         have h := h.step f
         have n := af.box n nn
         have w := w.step f
         have x := x.step f
         have e := e.box af bA ao
         have k := k.box i.size bA
         have i := i.ext af
         refine Xe R (t_alt _ R ?_ ?_)
         · refine Xb (vs := [(0, Vi ((O).length : Int))]) #[Vi ((O).length : Int)] 3 R R R (by kernel_rfl) (fun L bi a4 ag Y bZ => ?_)
           refine ⟨.inr (Y.nil), ?_⟩
           have ab := e
           have f := Stp.ext (ls := [[F], [a], [b], d]) Y
           have l := Y.box l nn
           have h := h.step f
           have n := Y.box n nn
           have w := w.step f
           have x := x.step f
           have ao := Y.box ao nn
           have e := e.ev Y
           have i := i.ext Y
           have aO : SlR eI bi (fl [[F], [a], [b], d]) (Ad L 0) 1 ([((O).length : Int)]) := ro_of_box ab a4 ag R R (cells_at (cs := [Vi ((O).length : Int)]) (CellsOf.cons (c := [Vi ((O).length : Int)]) R CellsOf.nil))
           refine Xb (vs := [(0, Vi aX.1)]) #[Vi aX.1] 3 R R R (by kernel_rfl) (fun H ap aD ae E bH => ?_)
           refine ⟨.inr (E.nil), ?_⟩
           have ab := e
           have f := Stp.ext (ls := [[F], [a], [b], d]) E
           have l := E.box l nn
           have h := h.step f
           have n := E.box n nn
           have w := w.step f
           have x := x.step f
           have ao := E.box ao nn
           have aO := aO.step f
           have e := e.ev E
           have i := i.ext E
           have bh : SlR eI ap (fl [[F], [a], [b], d]) (Ad H 0) 1 ([aX.1]) := ro_of_box ab aD ae R R (cells_at (cs := [Vi aX.1]) (CellsOf.cons (c := [Vi aX.1]) R CellsOf.nil))
           obtain ⟨g, A, m⟩ := Bs m
           have Z := bowl_Arrive_w bg ba bb O be bf bd (Ad L 0) 1 ([((O).length : Int)]) (Ad H 0) 1 ([aX.1]) _ ap (fl [[F], [a], [b], d]) (MS.fold (P := []) e) (w.sub fl1) (x.sub fl1) (aO.sub fl1) (bh.sub fl1) A
           refine Xc 6 #[] #[] _ _ R R R R Z ?_
           rintro aA bJ ⟨p, I, j, J, rfl, C, aY, ad, q, r⟩
           refine ⟨.inr (C.nil), ?_⟩
           have f := Stp.call0 [[F], [a], [b], d] [Bk p, Bk j] [Bk p, Bk j, [F], [a], [b], d] C ad R
           have l := C.box l nn
           have h := h.step f
           have n := C.box n nn
           have ao := C.box ao nn
           have e := MS.call0 [Bk p, Bk j] [Bk p, Bk j, [F], [a], [b], d] e C aY ad R
           have al := FR.call0 [Bk p, Bk j, [F], [a], [b]] i.size ad k R
           have i := i.ext C
           have k := al
           have q := OwnS.plain (M' := fl [Bk p, Bk j, [F], [a], [b], d]) (Pi _) q
           have r := OwnS.plain (M' := fl [Bk p, Bk j, [F], [a], [b], d]) (Pi _) r
           have v := e.pk [1, 2, 3, 4, 5] [Bk j, [F], [a], [b], d] R
           have o := Pk (ls := [Bk p, Bk j, [F], [a], [b], d]) [1, 2, 3, 4, 5] [Bk j, [F], [a], [b], d] R
           have h := h.sub o
           have q := q.ro o (pick_out e 0 R [some 1, some 2, some 3, some 4, some 5] [Bk j, [F], [a], [b], d] R R)
           have r := r.sub o
           have e := v
           have k := k.pk [1, 2, 3, 4] [Bk j, [F], [a], [b]] R
           have v := e.pk [1, 2, 3, 4] [[F], [a], [b], d] R
           have o := Pk (ls := [Bk j, [F], [a], [b], d]) [1, 2, 3, 4] [[F], [a], [b], d] R
           have h := h.sub o
           have q := q.sub o
           have r := r.ro o (pick_out e 0 R [some 1, some 2, some 3, some 4] [[F], [a], [b], d] R R)
           have e := v
           have k := k.pk [1, 2, 3] [[F], [a], [b]] R
           refine Xu 4 [(31, .tuple #[.agg #[Vi g.1.1, Vl p g.1.2.1 I, Vl j g.1.2.2 J], Vi g.2.1, Vi g.2.2]), (42, .agg #[Vi g.1.1, Vl p g.1.2.1 I, Vl j g.1.2.2 J]), (43, Vi g.2.1), (44, Vi g.2.2)] ?_
           obtain ⟨aG, aE, aB, G⟩ := Sa [Vi g.1.1, Vl p g.1.2.1 I, Vl j g.1.2.2 J] tagg26 ao R R R
           refine Ys aG _ _ R aE (I1 ?_)
           have f := Stp.ev' (ls := [[F], [a], [b], d]) G (Mf 0 R)
           have l := G.box l (e.apart 1 0 R R R _ mem1)
           have h := h.step f
           have n := G.box n (e.apart 2 0 R R R _ mem1)
           have q := q.step f
           have r := r.step f
           have e := e.ev G
           have i := i.then G (fun t u => .inr (k.at 0 R t u))
           have ao := aB
           refine Xu 2 [(7, Vi g.2.1), (8, Vi g.2.2)] (Xe R (t_stop (Kt (Cn [(3, Vp a 0), (4, Vp b 0), (5, Vi Q), (6, Vp F 0), (8, Vi g.2.2)] (fun aS => ?_)))))
           refine Cq (Cs (Xu 2 [(45, Vi g.2.2), (46, .bool (g.2.2 != 0))] (Xk (Ci (g.2.2 != 0) R m (fun m => ?_) (fun m => ?_)))))
           · refine Cs (Xu 1 [(2, .bool false)] (Xk (Cr (Kr (Kb (Kr ?_))))))
             obtain rfl := Sj m
             have am := Sj az
             subst am
             have m := bs
             refine Kr (Kb (Kr (Rr (Rv [.bool false] ⟨R, T0⟩ ?_))))
             obtain rfl := Sj m
             exact ⟨R, i⟩
           refine Ck (Kt (Cp (Yl _ _ R (Ra 0 [Vi g.1.1, Vl p g.1.2.1 I, Vl j g.1.2.2 J] tagg26 ao nn R) ?_)))
           obtain ⟨aH, aF, aC, S⟩ := Sa [Vi g.1.1, Vl p g.1.2.1 I, Vl j g.1.2.2 J] tagg26 n R R R
           refine Ys aH _ _ R aF (I1 ?_)
           have f := Stp.ev' (ls := [[F], [a], [b], d]) S (Mf 2 R)
           have l := S.box l (e.apart 1 2 R R R _ mem1)
           have h := h.step f
           have q := q.step f
           have r := r.step f
           have e := e.ev S
           have i := i.then S (fun t u => .inr (k.at 2 R t u))
           have n := aC
           refine Xe R (Kl (Kt (Cp (Xu 3 [(29, Vi Q), (30, Vi (i64.wrap (Q - 1))), (5, Vi (i64.wrap (Q - 1)))] (Xe R ?_)))))
           obtain rfl := Sj m
           have v := e.pk [1, 2, 3] [[a], [b], d] R
           have o := Pk (ls := [[F], [a], [b], d]) [1, 2, 3] [[a], [b], d] R
           have h := h.sub o
           have q := q.sub o
           have r := r.sub o
           have e := v
           have k := k.pk [1, 2] [[a], [b]] R
           exact Kt ⟨(bj, aX.2, g.1.1, g.1.2.1, g.1.2.2, i64.wrap (Q - 1), p, I, j, J), ⟨R, R, R, T0⟩, ⟨az, i, e, k, h, l, q, r, n⟩, Ns _⟩
         refine t_alt _ R ?_ ?_
         · refine Xb (vs := [(0, Vi aX.1)]) #[Vi aX.1] 3 R R R (by kernel_rfl) (fun L bi a4 ag Y bZ => ?_)
           refine ⟨.inr (Y.nil), ?_⟩
           have ab := e
           have f := Stp.ext (ls := [[F], [a], [b], d]) Y
           have l := Y.box l nn
           have h := h.step f
           have n := Y.box n nn
           have w := w.step f
           have x := x.step f
           have ao := Y.box ao nn
           have e := e.ev Y
           have i := i.ext Y
           have aO : SlR eI bi (fl [[F], [a], [b], d]) (Ad L 0) 1 ([aX.1]) := ro_of_box ab a4 ag R R (cells_at (cs := [Vi aX.1]) (CellsOf.cons (c := [Vi aX.1]) R CellsOf.nil))
           refine Xb (vs := [(0, Vi ((O).length : Int))]) #[Vi ((O).length : Int)] 3 R R R (by kernel_rfl) (fun H ap aD ae E bH => ?_)
           refine ⟨.inr (E.nil), ?_⟩
           have ab := e
           have f := Stp.ext (ls := [[F], [a], [b], d]) E
           have l := E.box l nn
           have h := h.step f
           have n := E.box n nn
           have w := w.step f
           have x := x.step f
           have ao := E.box ao nn
           have aO := aO.step f
           have e := e.ev E
           have i := i.ext E
           have bh : SlR eI ap (fl [[F], [a], [b], d]) (Ad H 0) 1 ([((O).length : Int)]) := ro_of_box ab aD ae R R (cells_at (cs := [Vi ((O).length : Int)]) (CellsOf.cons (c := [Vi ((O).length : Int)]) R CellsOf.nil))
           obtain ⟨g, A, m⟩ := Bs m
           have Z := bowl_Arrive_w bg ba bb O be bf bd (Ad H 0) 1 ([((O).length : Int)]) (Ad L 0) 1 ([aX.1]) _ ap (fl [[F], [a], [b], d]) (MS.fold (P := []) e) (w.sub fl1) (x.sub fl1) (bh.sub fl1) (aO.sub fl1) A
           refine Xc 6 #[] #[] _ _ R R R R Z ?_
           rintro aA bJ ⟨p, I, j, J, rfl, C, aY, ad, q, r⟩
           refine ⟨.inr (C.nil), ?_⟩
           have f := Stp.call0 [[F], [a], [b], d] [Bk p, Bk j] [Bk p, Bk j, [F], [a], [b], d] C ad R
           have l := C.box l nn
           have h := h.step f
           have n := C.box n nn
           have ao := C.box ao nn
           have e := MS.call0 [Bk p, Bk j] [Bk p, Bk j, [F], [a], [b], d] e C aY ad R
           have al := FR.call0 [Bk p, Bk j, [F], [a], [b]] i.size ad k R
           have i := i.ext C
           have k := al
           have q := OwnS.plain (M' := fl [Bk p, Bk j, [F], [a], [b], d]) (Pi _) q
           have r := OwnS.plain (M' := fl [Bk p, Bk j, [F], [a], [b], d]) (Pi _) r
           have v := e.pk [1, 2, 3, 4, 5] [Bk j, [F], [a], [b], d] R
           have o := Pk (ls := [Bk p, Bk j, [F], [a], [b], d]) [1, 2, 3, 4, 5] [Bk j, [F], [a], [b], d] R
           have h := h.sub o
           have q := q.ro o (pick_out e 0 R [some 1, some 2, some 3, some 4, some 5] [Bk j, [F], [a], [b], d] R R)
           have r := r.sub o
           have e := v
           have k := k.pk [1, 2, 3, 4] [Bk j, [F], [a], [b]] R
           have v := e.pk [1, 2, 3, 4] [[F], [a], [b], d] R
           have o := Pk (ls := [Bk j, [F], [a], [b], d]) [1, 2, 3, 4] [[F], [a], [b], d] R
           have h := h.sub o
           have q := q.sub o
           have r := r.ro o (pick_out e 0 R [some 1, some 2, some 3, some 4] [[F], [a], [b], d] R R)
           have e := v
           have k := k.pk [1, 2, 3] [[F], [a], [b]] R
           refine Xu 4 [(31, .tuple #[.agg #[Vi g.1.1, Vl p g.1.2.1 I, Vl j g.1.2.2 J], Vi g.2.1, Vi g.2.2]), (42, .agg #[Vi g.1.1, Vl p g.1.2.1 I, Vl j g.1.2.2 J]), (43, Vi g.2.1), (44, Vi g.2.2)] ?_
           obtain ⟨aG, aE, aB, G⟩ := Sa [Vi g.1.1, Vl p g.1.2.1 I, Vl j g.1.2.2 J] tagg26 ao R R R
           refine Ys aG _ _ R aE (I1 ?_)
           have f := Stp.ev' (ls := [[F], [a], [b], d]) G (Mf 0 R)
           have l := G.box l (e.apart 1 0 R R R _ mem1)
           have h := h.step f
           have n := G.box n (e.apart 2 0 R R R _ mem1)
           have q := q.step f
           have r := r.step f
           have e := e.ev G
           have i := i.then G (fun t u => .inr (k.at 0 R t u))
           have ao := aB
           refine Xu 2 [(7, Vi g.2.1), (8, Vi g.2.2)] (Xe R (t_stop (Kt (Cn [(3, Vp a 0), (4, Vp b 0), (5, Vi Q), (6, Vp F 0), (8, Vi g.2.2)] (fun aS => ?_)))))
           refine Cq (Cs (Xu 2 [(45, Vi g.2.2), (46, .bool (g.2.2 != 0))] (Xk (Ci (g.2.2 != 0) R m (fun m => ?_) (fun m => ?_)))))
           · refine Cs (Xu 1 [(2, .bool false)] (Xk (Cr (Kr (Kb (Kr ?_))))))
             obtain rfl := Sj m
             have am := Sj az
             subst am
             have m := bs
             refine Kr (Kb (Kr (Rr (Rv [.bool false] ⟨R, T0⟩ ?_))))
             obtain rfl := Sj m
             exact ⟨R, i⟩
           refine Ck (Kt (Cp (Yl _ _ R (Ra 0 [Vi g.1.1, Vl p g.1.2.1 I, Vl j g.1.2.2 J] tagg26 ao nn R) ?_)))
           obtain ⟨aH, aF, aC, S⟩ := Sa [Vi g.1.1, Vl p g.1.2.1 I, Vl j g.1.2.2 J] tagg26 n R R R
           refine Ys aH _ _ R aF (I1 ?_)
           have f := Stp.ev' (ls := [[F], [a], [b], d]) S (Mf 2 R)
           have l := S.box l (e.apart 1 2 R R R _ mem1)
           have h := h.step f
           have q := q.step f
           have r := r.step f
           have e := e.ev S
           have i := i.then S (fun t u => .inr (k.at 2 R t u))
           have n := aC
           refine Xe R (Kl (Kt (Cp (Xu 3 [(29, Vi Q), (30, Vi (i64.wrap (Q - 1))), (5, Vi (i64.wrap (Q - 1)))] (Xe R ?_)))))
           obtain rfl := Sj m
           have v := e.pk [1, 2, 3] [[a], [b], d] R
           have o := Pk (ls := [[F], [a], [b], d]) [1, 2, 3] [[a], [b], d] R
           have h := h.sub o
           have q := q.sub o
           have r := r.sub o
           have e := v
           have k := k.pk [1, 2] [[a], [b]] R
           exact Kt ⟨(bj, aX.2, g.1.1, g.1.2.1, g.1.2.2, i64.wrap (Q - 1), p, I, j, J), ⟨R, R, R, T0⟩, ⟨az, i, e, k, h, l, q, r, n⟩, Ns _⟩
         exact t_none
       exact t_none
     refine t_alt _ R ?_ ?_
     · refine Xa (z := .agg #[Vi 0, Z0, Z0]) R R (by kernel_rfl) (fun B bB bS au aL cX => ?_)
       replace au : bB.heap[B]? = some (.cells #[Vi 0, Z0, Z0] 26 (0, 0)) := au
       refine ⟨.inr (aL.nil), ?_⟩
       have f := Stp.box (ls := [[a], [b], d]) aL bS
       have l := aL.box l nn
       have h := h.step f
       have n := aL.box n nn
       have w := w.step f
       have x := x.step f
       have aK := aK.step f
       have e := e.box aL bS au
       have k := k.box i.size bS
       have i := i.ext aL
       refine Xe R (t_alt _ R ?_ ?_)
       · refine Xb (vs := [(0, Vi ((O).length : Int))]) #[Vi ((O).length : Int)] 3 R R R (by kernel_rfl) (fun F a8 bA ao af cf => ?_)
         refine ⟨.inr (af.nil), ?_⟩
         have ab := e
         have f := Stp.ext (ls := [[B], [a], [b], d]) af
         have l := af.box l nn
         have h := h.step f
         have n := af.box n nn
         have w := w.step f
         have x := x.step f
         have aK := aK.step f
         have au := af.box au nn
         have e := e.ev af
         have i := i.ext af
         have aZ : SlR eI a8 (fl [[B], [a], [b], d]) (Ad F 0) 1 ([((O).length : Int)]) := ro_of_box ab bA ao R R (cells_at (cs := [Vi ((O).length : Int)]) (CellsOf.cons (c := [Vi ((O).length : Int)]) R CellsOf.nil))
         obtain ⟨aI, A, m⟩ := Bs m
         have v : MS a8 ([[a]] ++ [[B], [b], d]) := e.pk [1, 0, 2, 3] _ R
         have a5 : ∀ s ∈ fl ([[a]] ++ [[B], [b], d]), s ∈ fl [[B], [a], [b], d] := Pk [1, 0, 2, 3] _ R
         have ak : ∀ s ∈ fl ([[a]] ++ [(fl [[B], [b], d])]), s ∈ fl [[B], [a], [b], d] := fun s A => a5 s (Fu s A)
         have Z := gen_Maker_Pick_w a bC bD bu.1 bN (Ad D 0) 4 ([80, 142, 262, 400]) _ a8 (fl [[B], [b], d]) (v.fold (P := [[a]])) (h.sub ak) l (aK.sub ak) A
         refine Xc 7 #[] #[] _ _ R R R R Z ?_
         rintro aA cZ ⟨rfl, aU, b1⟩
         refine ⟨.inr aU, ?_⟩
         have aq : MS a8 ([[a]] ++ [[B], [b], d]) := e.pk [1, 0, 2, 3] _ R
         have ay : ∀ s ∈ fl ([[a]] ++ [[B], [b], d]), s ∈ fl [[B], [a], [b], d] := Pk [1, 0, 2, 3] _ R
         have a6 := Stp.call (LS := [[B], [a], [b], d]) (res := []) (par := [[a]]) (R := [[B], [b], d]) aU (fun t u => ay t (fl_left' (P := [[a]]) t u)) (FR.nil _) (NP.init _ _) (fun s A => ay s (fl_right' (P := [[a]]) s A))
         have a1 : ∀ s ∈ fl [[B], [a], [b], d], s ∈ fl ([] ++ ([[a]] ++ [[B], [b], d])) := Pk [1, 0, 2, 3] _ R
         have f := a6.res a1
         have h := h.step f
         have n := aU.box n ((MS.outs (P := [[a]]) aq 1 R) _ mem1)
         have w := w.step f
         have x := x.step f
         have au := aU.box au ((MS.outs (P := [[a]]) aq 0 R) _ mem1)
         have aZ := aZ.step f
         have e := e.ev aU
         have a2 : ∀ t ∈ fl [[a]], a7.heap.size ≤ t := FR.mem (ls := [[a]]) (k.pk [1] _ R)
         have i := i.then aU (fun t u => .inr (a2 t u))
         have l := b1
         refine Xb (vs := [(0, Vi aI.1)]) #[Vi aI.1] 3 R R R (by kernel_rfl) (fun H ap aD ae E bH => ?_)
         refine ⟨.inr (E.nil), ?_⟩
         have ab := e
         have f := Stp.ext (ls := [[B], [a], [b], d]) E
         have l := E.box l nn
         have h := h.step f
         have n := E.box n nn
         have w := w.step f
         have x := x.step f
         have au := E.box au nn
         have aZ := aZ.step f
         have e := e.ev E
         have i := i.ext E
         have bh : SlR eI ap (fl [[B], [a], [b], d]) (Ad H 0) 1 ([aI.1]) := ro_of_box ab aD ae R R (cells_at (cs := [Vi aI.1]) (CellsOf.cons (c := [Vi aI.1]) R CellsOf.nil))
         obtain ⟨g, A, m⟩ := Bs m
         have Z := bowl_Arrive_w bg ba bb O be bf bd (Ad F 0) 1 ([((O).length : Int)]) (Ad H 0) 1 ([aI.1]) _ ap (fl [[B], [a], [b], d]) (MS.fold (P := []) e) (w.sub fl1) (x.sub fl1) (aZ.sub fl1) (bh.sub fl1) A
         refine Xc 6 #[] #[] _ _ R R R R Z ?_
         rintro aA bJ ⟨p, I, j, J, rfl, C, aY, ad, q, r⟩
         refine ⟨.inr (C.nil), ?_⟩
         have f := Stp.call0 [[B], [a], [b], d] [Bk p, Bk j] [Bk p, Bk j, [B], [a], [b], d] C ad R
         have l := C.box l nn
         have h := h.step f
         have n := C.box n nn
         have au := C.box au nn
         have e := MS.call0 [Bk p, Bk j] [Bk p, Bk j, [B], [a], [b], d] e C aY ad R
         have al := FR.call0 [Bk p, Bk j, [B], [a], [b]] i.size ad k R
         have i := i.ext C
         have k := al
         have q := OwnS.plain (M' := fl [Bk p, Bk j, [B], [a], [b], d]) (Pi _) q
         have r := OwnS.plain (M' := fl [Bk p, Bk j, [B], [a], [b], d]) (Pi _) r
         have v := e.pk [1, 2, 3, 4, 5] [Bk j, [B], [a], [b], d] R
         have o := Pk (ls := [Bk p, Bk j, [B], [a], [b], d]) [1, 2, 3, 4, 5] [Bk j, [B], [a], [b], d] R
         have h := h.sub o
         have q := q.ro o (pick_out e 0 R [some 1, some 2, some 3, some 4, some 5] [Bk j, [B], [a], [b], d] R R)
         have r := r.sub o
         have e := v
         have k := k.pk [1, 2, 3, 4] [Bk j, [B], [a], [b]] R
         have v := e.pk [1, 2, 3, 4] [[B], [a], [b], d] R
         have o := Pk (ls := [Bk j, [B], [a], [b], d]) [1, 2, 3, 4] [[B], [a], [b], d] R
         have h := h.sub o
         have q := q.sub o
         have r := r.ro o (pick_out e 0 R [some 1, some 2, some 3, some 4] [[B], [a], [b], d] R R)
         have e := v
         have k := k.pk [1, 2, 3] [[B], [a], [b]] R
         refine Xu 4 [(31, .tuple #[.agg #[Vi g.1.1, Vl p g.1.2.1 I, Vl j g.1.2.2 J], Vi g.2.1, Vi g.2.2]), (42, .agg #[Vi g.1.1, Vl p g.1.2.1 I, Vl j g.1.2.2 J]), (43, Vi g.2.1), (44, Vi g.2.2)] ?_
         obtain ⟨aG, aE, aB, G⟩ := Sa [Vi g.1.1, Vl p g.1.2.1 I, Vl j g.1.2.2 J] tagg26 au R R R
         refine Ys aG _ _ R aE (I1 ?_)
         have f := Stp.ev' (ls := [[B], [a], [b], d]) G (Mf 0 R)
         have l := G.box l (e.apart 1 0 R R R _ mem1)
         have h := h.step f
         have n := G.box n (e.apart 2 0 R R R _ mem1)
         have q := q.step f
         have r := r.step f
         have e := e.ev G
         have i := i.then G (fun t u => .inr (k.at 0 R t u))
         have au := aB
         refine Xu 2 [(7, Vi g.2.1), (8, Vi g.2.2)] (Xe R (t_stop (Kt (Cn [(3, Vp a 0), (4, Vp b 0), (5, Vi Q), (6, Vp B 0), (8, Vi g.2.2)] (fun aS => ?_)))))
         refine Cq (Cs (Xu 2 [(45, Vi g.2.2), (46, .bool (g.2.2 != 0))] (Xk (Ci (g.2.2 != 0) R m (fun m => ?_) (fun m => ?_)))))
         · refine Cs (Xu 1 [(2, .bool false)] (Xk (Cr (Kr (Kb (Kr ?_))))))
           obtain rfl := Sj m
           have am := Sj az
           subst am
           have m := bs
           refine Kr (Kb (Kr (Rr (Rv [.bool false] ⟨R, T0⟩ ?_))))
           obtain rfl := Sj m
           exact ⟨R, i⟩
         refine Ck (Kt (Cp (Yl _ _ R (Ra 0 [Vi g.1.1, Vl p g.1.2.1 I, Vl j g.1.2.2 J] tagg26 au nn R) ?_)))
         obtain ⟨aH, aF, aC, S⟩ := Sa [Vi g.1.1, Vl p g.1.2.1 I, Vl j g.1.2.2 J] tagg26 n R R R
         refine Ys aH _ _ R aF (I1 ?_)
         have f := Stp.ev' (ls := [[B], [a], [b], d]) S (Mf 2 R)
         have l := S.box l (e.apart 1 2 R R R _ mem1)
         have h := h.step f
         have q := q.step f
         have r := r.step f
         have e := e.ev S
         have i := i.then S (fun t u => .inr (k.at 2 R t u))
         have n := aC
         refine Xe R (Kl (Kt (Cp (Xu 3 [(29, Vi Q), (30, Vi (i64.wrap (Q - 1))), (5, Vi (i64.wrap (Q - 1)))] (Xe R ?_)))))
         obtain rfl := Sj m
         have v := e.pk [1, 2, 3] [[a], [b], d] R
         have o := Pk (ls := [[B], [a], [b], d]) [1, 2, 3] [[a], [b], d] R
         have h := h.sub o
         have q := q.sub o
         have r := r.sub o
         have e := v
         have k := k.pk [1, 2] [[a], [b]] R
         exact Kt ⟨(bj, aI.2, g.1.1, g.1.2.1, g.1.2.2, i64.wrap (Q - 1), p, I, j, J), ⟨R, R, R, T0⟩, ⟨az, i, e, k, h, l, q, r, n⟩, Ns _⟩
       refine t_alt _ R ?_ ?_
       · obtain ⟨aj, A, m⟩ := Bs m
         have v : MS bB ([[a]] ++ [[B], [b], d]) := e.pk [1, 0, 2, 3] _ R
         have a5 : ∀ s ∈ fl ([[a]] ++ [[B], [b], d]), s ∈ fl [[B], [a], [b], d] := Pk [1, 0, 2, 3] _ R
         have ak : ∀ s ∈ fl ([[a]] ++ [(fl [[B], [b], d])]), s ∈ fl [[B], [a], [b], d] := fun s A => a5 s (Fu s A)
         have Z := gen_Maker_Pick_w a bC bD bu.1 bN (Ad D 0) 4 ([80, 142, 262, 400]) _ bB (fl [[B], [b], d]) (v.fold (P := [[a]])) (h.sub ak) l (aK.sub ak) A
         refine Xc 7 #[] #[] _ _ R R R R Z ?_
         rintro aA du ⟨rfl, bt, cz⟩
         refine ⟨.inr bt, ?_⟩
         have aq : MS bB ([[a]] ++ [[B], [b], d]) := e.pk [1, 0, 2, 3] _ R
         have ay : ∀ s ∈ fl ([[a]] ++ [[B], [b], d]), s ∈ fl [[B], [a], [b], d] := Pk [1, 0, 2, 3] _ R
         have a6 := Stp.call (LS := [[B], [a], [b], d]) (res := []) (par := [[a]]) (R := [[B], [b], d]) bt (fun t u => ay t (fl_left' (P := [[a]]) t u)) (FR.nil _) (NP.init _ _) (fun s A => ay s (fl_right' (P := [[a]]) s A))
         have a1 : ∀ s ∈ fl [[B], [a], [b], d], s ∈ fl ([] ++ ([[a]] ++ [[B], [b], d])) := Pk [1, 0, 2, 3] _ R
         have f := a6.res a1
         have h := h.step f
         have n := bt.box n ((MS.outs (P := [[a]]) aq 1 R) _ mem1)
         have w := w.step f
         have x := x.step f
         have au := bt.box au ((MS.outs (P := [[a]]) aq 0 R) _ mem1)
         have e := e.ev bt
         have a2 : ∀ t ∈ fl [[a]], a7.heap.size ≤ t := FR.mem (ls := [[a]]) (k.pk [1] _ R)
         have i := i.then bt (fun t u => .inr (a2 t u))
         have l := cz
         refine Xe R (t_alt _ R ?_ ?_)
         · refine Xb (vs := [(0, Vi ((O).length : Int))]) #[Vi ((O).length : Int)] 3 R R R (by kernel_rfl) (fun L bi a4 ag Y bZ => ?_)
           refine ⟨.inr (Y.nil), ?_⟩
           have ab := e
           have f := Stp.ext (ls := [[B], [a], [b], d]) Y
           have l := Y.box l nn
           have h := h.step f
           have n := Y.box n nn
           have w := w.step f
           have x := x.step f
           have au := Y.box au nn
           have e := e.ev Y
           have i := i.ext Y
           have aO : SlR eI bi (fl [[B], [a], [b], d]) (Ad L 0) 1 ([((O).length : Int)]) := ro_of_box ab a4 ag R R (cells_at (cs := [Vi ((O).length : Int)]) (CellsOf.cons (c := [Vi ((O).length : Int)]) R CellsOf.nil))
           refine Xb (vs := [(0, Vi aj.1)]) #[Vi aj.1] 3 R R R (by kernel_rfl) (fun H ap aD ae E bH => ?_)
           refine ⟨.inr (E.nil), ?_⟩
           have ab := e
           have f := Stp.ext (ls := [[B], [a], [b], d]) E
           have l := E.box l nn
           have h := h.step f
           have n := E.box n nn
           have w := w.step f
           have x := x.step f
           have au := E.box au nn
           have aO := aO.step f
           have e := e.ev E
           have i := i.ext E
           have bh : SlR eI ap (fl [[B], [a], [b], d]) (Ad H 0) 1 ([aj.1]) := ro_of_box ab aD ae R R (cells_at (cs := [Vi aj.1]) (CellsOf.cons (c := [Vi aj.1]) R CellsOf.nil))
           obtain ⟨g, A, m⟩ := Bs m
           have Z := bowl_Arrive_w bg ba bb O be bf bd (Ad L 0) 1 ([((O).length : Int)]) (Ad H 0) 1 ([aj.1]) _ ap (fl [[B], [a], [b], d]) (MS.fold (P := []) e) (w.sub fl1) (x.sub fl1) (aO.sub fl1) (bh.sub fl1) A
           refine Xc 6 #[] #[] _ _ R R R R Z ?_
           rintro aA bJ ⟨p, I, j, J, rfl, C, aY, ad, q, r⟩
           refine ⟨.inr (C.nil), ?_⟩
           have f := Stp.call0 [[B], [a], [b], d] [Bk p, Bk j] [Bk p, Bk j, [B], [a], [b], d] C ad R
           have l := C.box l nn
           have h := h.step f
           have n := C.box n nn
           have au := C.box au nn
           have e := MS.call0 [Bk p, Bk j] [Bk p, Bk j, [B], [a], [b], d] e C aY ad R
           have al := FR.call0 [Bk p, Bk j, [B], [a], [b]] i.size ad k R
           have i := i.ext C
           have k := al
           have q := OwnS.plain (M' := fl [Bk p, Bk j, [B], [a], [b], d]) (Pi _) q
           have r := OwnS.plain (M' := fl [Bk p, Bk j, [B], [a], [b], d]) (Pi _) r
           have v := e.pk [1, 2, 3, 4, 5] [Bk j, [B], [a], [b], d] R
           have o := Pk (ls := [Bk p, Bk j, [B], [a], [b], d]) [1, 2, 3, 4, 5] [Bk j, [B], [a], [b], d] R
           have h := h.sub o
           have q := q.ro o (pick_out e 0 R [some 1, some 2, some 3, some 4, some 5] [Bk j, [B], [a], [b], d] R R)
           have r := r.sub o
           have e := v
           have k := k.pk [1, 2, 3, 4] [Bk j, [B], [a], [b]] R
           have v := e.pk [1, 2, 3, 4] [[B], [a], [b], d] R
           have o := Pk (ls := [Bk j, [B], [a], [b], d]) [1, 2, 3, 4] [[B], [a], [b], d] R
           have h := h.sub o
           have q := q.sub o
           have r := r.ro o (pick_out e 0 R [some 1, some 2, some 3, some 4] [[B], [a], [b], d] R R)
           have e := v
           have k := k.pk [1, 2, 3] [[B], [a], [b]] R
           refine Xu 4 [(31, .tuple #[.agg #[Vi g.1.1, Vl p g.1.2.1 I, Vl j g.1.2.2 J], Vi g.2.1, Vi g.2.2]), (42, .agg #[Vi g.1.1, Vl p g.1.2.1 I, Vl j g.1.2.2 J]), (43, Vi g.2.1), (44, Vi g.2.2)] ?_
           obtain ⟨aG, aE, aB, G⟩ := Sa [Vi g.1.1, Vl p g.1.2.1 I, Vl j g.1.2.2 J] tagg26 au R R R
           refine Ys aG _ _ R aE (I1 ?_)
           have f := Stp.ev' (ls := [[B], [a], [b], d]) G (Mf 0 R)
           have l := G.box l (e.apart 1 0 R R R _ mem1)
           have h := h.step f
           have n := G.box n (e.apart 2 0 R R R _ mem1)
           have q := q.step f
           have r := r.step f
           have e := e.ev G
           have i := i.then G (fun t u => .inr (k.at 0 R t u))
           have au := aB
           refine Xu 2 [(7, Vi g.2.1), (8, Vi g.2.2)] (Xe R (t_stop (Kt (Cn [(3, Vp a 0), (4, Vp b 0), (5, Vi Q), (6, Vp B 0), (8, Vi g.2.2)] (fun aS => ?_)))))
           refine Cq (Cs (Xu 2 [(45, Vi g.2.2), (46, .bool (g.2.2 != 0))] (Xk (Ci (g.2.2 != 0) R m (fun m => ?_) (fun m => ?_)))))
           · refine Cs (Xu 1 [(2, .bool false)] (Xk (Cr (Kr (Kb (Kr ?_))))))
             obtain rfl := Sj m
             have am := Sj az
             subst am
             have m := bs
             refine Kr (Kb (Kr (Rr (Rv [.bool false] ⟨R, T0⟩ ?_))))
             obtain rfl := Sj m
             exact ⟨R, i⟩
           refine Ck (Kt (Cp (Yl _ _ R (Ra 0 [Vi g.1.1, Vl p g.1.2.1 I, Vl j g.1.2.2 J] tagg26 au nn R) ?_)))
           obtain ⟨aH, aF, aC, S⟩ := Sa [Vi g.1.1, Vl p g.1.2.1 I, Vl j g.1.2.2 J] tagg26 n R R R
           refine Ys aH _ _ R aF (I1 ?_)
           have f := Stp.ev' (ls := [[B], [a], [b], d]) S (Mf 2 R)
           have l := S.box l (e.apart 1 2 R R R _ mem1)
           have h := h.step f
           have q := q.step f
           have r := r.step f
           have e := e.ev S
           have i := i.then S (fun t u => .inr (k.at 2 R t u))
           have n := aC
           refine Xe R (Kl (Kt (Cp (Xu 3 [(29, Vi Q), (30, Vi (i64.wrap (Q - 1))), (5, Vi (i64.wrap (Q - 1)))] (Xe R ?_)))))
           obtain rfl := Sj m
           have v := e.pk [1, 2, 3] [[a], [b], d] R
           have o := Pk (ls := [[B], [a], [b], d]) [1, 2, 3] [[a], [b], d] R
           have h := h.sub o
           have q := q.sub o
           have r := r.sub o
           have e := v
           have k := k.pk [1, 2] [[a], [b]] R
           exact Kt ⟨(bj, aj.2, g.1.1, g.1.2.1, g.1.2.2, i64.wrap (Q - 1), p, I, j, J), ⟨R, R, R, T0⟩, ⟨az, i, e, k, h, l, q, r, n⟩, Ns _⟩
         refine t_alt _ R ?_ ?_
         · refine Xb (vs := [(0, Vi aj.1)]) #[Vi aj.1] 3 R R R (by kernel_rfl) (fun L bi a4 ag Y bZ => ?_)
           refine ⟨.inr (Y.nil), ?_⟩
           have ab := e
           have f := Stp.ext (ls := [[B], [a], [b], d]) Y
           have l := Y.box l nn
           have h := h.step f
           have n := Y.box n nn
           have w := w.step f
           have x := x.step f
           have au := Y.box au nn
           have e := e.ev Y
           have i := i.ext Y
           have aO : SlR eI bi (fl [[B], [a], [b], d]) (Ad L 0) 1 ([aj.1]) := ro_of_box ab a4 ag R R (cells_at (cs := [Vi aj.1]) (CellsOf.cons (c := [Vi aj.1]) R CellsOf.nil))
           refine Xb (vs := [(0, Vi ((O).length : Int))]) #[Vi ((O).length : Int)] 3 R R R (by kernel_rfl) (fun H ap aD ae E bH => ?_)
           refine ⟨.inr (E.nil), ?_⟩
           have ab := e
           have f := Stp.ext (ls := [[B], [a], [b], d]) E
           have l := E.box l nn
           have h := h.step f
           have n := E.box n nn
           have w := w.step f
           have x := x.step f
           have au := E.box au nn
           have aO := aO.step f
           have e := e.ev E
           have i := i.ext E
           have bh : SlR eI ap (fl [[B], [a], [b], d]) (Ad H 0) 1 ([((O).length : Int)]) := ro_of_box ab aD ae R R (cells_at (cs := [Vi ((O).length : Int)]) (CellsOf.cons (c := [Vi ((O).length : Int)]) R CellsOf.nil))
           obtain ⟨g, A, m⟩ := Bs m
           have Z := bowl_Arrive_w bg ba bb O be bf bd (Ad H 0) 1 ([((O).length : Int)]) (Ad L 0) 1 ([aj.1]) _ ap (fl [[B], [a], [b], d]) (MS.fold (P := []) e) (w.sub fl1) (x.sub fl1) (bh.sub fl1) (aO.sub fl1) A
           refine Xc 6 #[] #[] _ _ R R R R Z ?_
           rintro aA bJ ⟨p, I, j, J, rfl, C, aY, ad, q, r⟩
           refine ⟨.inr (C.nil), ?_⟩
           have f := Stp.call0 [[B], [a], [b], d] [Bk p, Bk j] [Bk p, Bk j, [B], [a], [b], d] C ad R
           have l := C.box l nn
           have h := h.step f
           have n := C.box n nn
           have au := C.box au nn
           have e := MS.call0 [Bk p, Bk j] [Bk p, Bk j, [B], [a], [b], d] e C aY ad R
           have al := FR.call0 [Bk p, Bk j, [B], [a], [b]] i.size ad k R
           have i := i.ext C
           have k := al
           have q := OwnS.plain (M' := fl [Bk p, Bk j, [B], [a], [b], d]) (Pi _) q
           have r := OwnS.plain (M' := fl [Bk p, Bk j, [B], [a], [b], d]) (Pi _) r
           have v := e.pk [1, 2, 3, 4, 5] [Bk j, [B], [a], [b], d] R
           have o := Pk (ls := [Bk p, Bk j, [B], [a], [b], d]) [1, 2, 3, 4, 5] [Bk j, [B], [a], [b], d] R
           have h := h.sub o
           have q := q.ro o (pick_out e 0 R [some 1, some 2, some 3, some 4, some 5] [Bk j, [B], [a], [b], d] R R)
           have r := r.sub o
           have e := v
           have k := k.pk [1, 2, 3, 4] [Bk j, [B], [a], [b]] R
           have v := e.pk [1, 2, 3, 4] [[B], [a], [b], d] R
           have o := Pk (ls := [Bk j, [B], [a], [b], d]) [1, 2, 3, 4] [[B], [a], [b], d] R
           have h := h.sub o
           have q := q.sub o
           have r := r.ro o (pick_out e 0 R [some 1, some 2, some 3, some 4] [[B], [a], [b], d] R R)
           have e := v
           have k := k.pk [1, 2, 3] [[B], [a], [b]] R
           refine Xu 4 [(31, .tuple #[.agg #[Vi g.1.1, Vl p g.1.2.1 I, Vl j g.1.2.2 J], Vi g.2.1, Vi g.2.2]), (42, .agg #[Vi g.1.1, Vl p g.1.2.1 I, Vl j g.1.2.2 J]), (43, Vi g.2.1), (44, Vi g.2.2)] ?_
           obtain ⟨aG, aE, aB, G⟩ := Sa [Vi g.1.1, Vl p g.1.2.1 I, Vl j g.1.2.2 J] tagg26 au R R R
           refine Ys aG _ _ R aE (I1 ?_)
           have f := Stp.ev' (ls := [[B], [a], [b], d]) G (Mf 0 R)
           have l := G.box l (e.apart 1 0 R R R _ mem1)
           have h := h.step f
           have n := G.box n (e.apart 2 0 R R R _ mem1)
           have q := q.step f
           have r := r.step f
           have e := e.ev G
           have i := i.then G (fun t u => .inr (k.at 0 R t u))
           have au := aB
           refine Xu 2 [(7, Vi g.2.1), (8, Vi g.2.2)] (Xe R (t_stop (Kt (Cn [(3, Vp a 0), (4, Vp b 0), (5, Vi Q), (6, Vp B 0), (8, Vi g.2.2)] (fun aS => ?_)))))
           refine Cq (Cs (Xu 2 [(45, Vi g.2.2), (46, .bool (g.2.2 != 0))] (Xk (Ci (g.2.2 != 0) R m (fun m => ?_) (fun m => ?_)))))
           · refine Cs (Xu 1 [(2, .bool false)] (Xk (Cr (Kr (Kb (Kr ?_))))))
             obtain rfl := Sj m
             have am := Sj az
             subst am
             have m := bs
             refine Kr (Kb (Kr (Rr (Rv [.bool false] ⟨R, T0⟩ ?_))))
             obtain rfl := Sj m
             exact ⟨R, i⟩
           refine Ck (Kt (Cp (Yl _ _ R (Ra 0 [Vi g.1.1, Vl p g.1.2.1 I, Vl j g.1.2.2 J] tagg26 au nn R) ?_)))
           obtain ⟨aH, aF, aC, S⟩ := Sa [Vi g.1.1, Vl p g.1.2.1 I, Vl j g.1.2.2 J] tagg26 n R R R
           refine Ys aH _ _ R aF (I1 ?_)
           have f := Stp.ev' (ls := [[B], [a], [b], d]) S (Mf 2 R)
           have l := S.box l (e.apart 1 2 R R R _ mem1)
           have h := h.step f
           have q := q.step f
           have r := r.step f
           have e := e.ev S
           have i := i.then S (fun t u => .inr (k.at 2 R t u))
           have n := aC
           refine Xe R (Kl (Kt (Cp (Xu 3 [(29, Vi Q), (30, Vi (i64.wrap (Q - 1))), (5, Vi (i64.wrap (Q - 1)))] (Xe R ?_)))))
           obtain rfl := Sj m
           have v := e.pk [1, 2, 3] [[a], [b], d] R
           have o := Pk (ls := [[B], [a], [b], d]) [1, 2, 3] [[a], [b], d] R
           have h := h.sub o
           have q := q.sub o
           have r := r.sub o
           have e := v
           have k := k.pk [1, 2] [[a], [b]] R
           exact Kt ⟨(bj, aj.2, g.1.1, g.1.2.1, g.1.2.2, i64.wrap (Q - 1), p, I, j, J), ⟨R, R, R, T0⟩, ⟨az, i, e, k, h, l, q, r, n⟩, Ns _⟩
         exact t_none
       exact t_none
     exact t_none
   refine t_alt _ R ?_ ?_
   · refine Xa (z := .agg #[Vi 0, Z0, Z0]) R R (by kernel_rfl) (fun D cg cA ax bG dF => ?_)
     replace ax : cg.heap[D]? = some (.cells #[Vi 0, Z0, Z0] 26 (0, 0)) := ax
     refine ⟨.inr (bG.nil), ?_⟩
     have f := Stp.box (ls := [[a], [b], d]) bG cA
     have l := bG.box l nn
     have h := h.step f
     have n := bG.box n nn
     have w := w.step f
     have x := x.step f
     have e := e.box bG cA ax
     have k := k.box i.size cA
     have i := i.ext bG
     refine Xe R (t_alt _ R ?_ ?_)
     · refine Xb (vs := [(0, Vi ((O).length : Int))]) #[Vi ((O).length : Int)] 3 R R R (by kernel_rfl) (fun B bB bS au aL cX => ?_)
       refine ⟨.inr (aL.nil), ?_⟩
       have ab := e
       have f := Stp.ext (ls := [[D], [a], [b], d]) aL
       have l := aL.box l nn
       have h := h.step f
       have n := aL.box n nn
       have w := w.step f
       have x := x.step f
       have ax := aL.box ax nn
       have e := e.ev aL
       have i := i.ext aL
       have a0 : SlR eI bB (fl [[D], [a], [b], d]) (Ad B 0) 1 ([((O).length : Int)]) := ro_of_box ab bS au R R (cells_at (cs := [Vi ((O).length : Int)]) (CellsOf.cons (c := [Vi ((O).length : Int)]) R CellsOf.nil))
       refine Xb (vs := [(0, Vi 80), (1, Vi 142), (2, Vi 262), (3, Vi 400)]) #[Vi 80, Vi 142, Vi 262, Vi 400] 3 R R R (by kernel_rfl) (fun F a8 bA ao af cf => ?_)
       refine ⟨.inr (af.nil), ?_⟩
       have ab := e
       have f := Stp.ext (ls := [[D], [a], [b], d]) af
       have l := af.box l nn
       have h := h.step f
       have n := af.box n nn
       have w := w.step f
       have x := x.step f
       have ax := af.box ax nn
       have a0 := a0.step f
       have e := e.ev af
       have i := i.ext af
       have aZ : SlR eI a8 (fl [[D], [a], [b], d]) (Ad F 0) 4 ([80, 142, 262, 400]) := ro_of_box ab bA ao R R (cells_at (cs := [Vi 80, Vi 142, Vi 262, Vi 400]) (CellsOf.cons (c := [Vi 80]) R (CellsOf.cons (c := [Vi 142]) R (CellsOf.cons (c := [Vi 262]) R (CellsOf.cons (c := [Vi 400]) R CellsOf.nil)))))
       obtain ⟨aI, A, m⟩ := Bs m
       have v : MS a8 ([[a]] ++ [[D], [b], d]) := e.pk [1, 0, 2, 3] _ R
       have a5 : ∀ s ∈ fl ([[a]] ++ [[D], [b], d]), s ∈ fl [[D], [a], [b], d] := Pk [1, 0, 2, 3] _ R
       have ak : ∀ s ∈ fl ([[a]] ++ [(fl [[D], [b], d])]), s ∈ fl [[D], [a], [b], d] := fun s A => a5 s (Fu s A)
       have Z := gen_Maker_Pick_w a bC bD bu.1 bN (Ad F 0) 4 ([80, 142, 262, 400]) _ a8 (fl [[D], [b], d]) (v.fold (P := [[a]])) (h.sub ak) l (aZ.sub ak) A
       refine Xc 7 #[] #[] _ _ R R R R Z ?_
       rintro aA cZ ⟨rfl, aU, b1⟩
       refine ⟨.inr aU, ?_⟩
       have aq : MS a8 ([[a]] ++ [[D], [b], d]) := e.pk [1, 0, 2, 3] _ R
       have ay : ∀ s ∈ fl ([[a]] ++ [[D], [b], d]), s ∈ fl [[D], [a], [b], d] := Pk [1, 0, 2, 3] _ R
       have a6 := Stp.call (LS := [[D], [a], [b], d]) (res := []) (par := [[a]]) (R := [[D], [b], d]) aU (fun t u => ay t (fl_left' (P := [[a]]) t u)) (FR.nil _) (NP.init _ _) (fun s A => ay s (fl_right' (P := [[a]]) s A))
       have a1 : ∀ s ∈ fl [[D], [a], [b], d], s ∈ fl ([] ++ ([[a]] ++ [[D], [b], d])) := Pk [1, 0, 2, 3] _ R
       have f := a6.res a1
       have h := h.step f
       have n := aU.box n ((MS.outs (P := [[a]]) aq 1 R) _ mem1)
       have w := w.step f
       have x := x.step f
       have ax := aU.box ax ((MS.outs (P := [[a]]) aq 0 R) _ mem1)
       have a0 := a0.step f
       have e := e.ev aU
       have a2 : ∀ t ∈ fl [[a]], a7.heap.size ≤ t := FR.mem (ls := [[a]]) (k.pk [1] _ R)
       have i := i.then aU (fun t u => .inr (a2 t u))
       have l := b1
       refine Xb (vs := [(0, Vi aI.1)]) #[Vi aI.1] 3 R R R (by kernel_rfl) (fun H ap aD ae E bH => ?_)
       refine ⟨.inr (E.nil), ?_⟩
       have ab := e
       have f := Stp.ext (ls := [[D], [a], [b], d]) E
       have l := E.box l nn
       have h := h.step f
       have n := E.box n nn
       have w := w.step f
       have x := x.step f
       have ax := E.box ax nn
       have a0 := a0.step f
       have e := e.ev E
       have i := i.ext E
       have bh : SlR eI ap (fl [[D], [a], [b], d]) (Ad H 0) 1 ([aI.1]) := ro_of_box ab aD ae R R (cells_at (cs := [Vi aI.1]) (CellsOf.cons (c := [Vi aI.1]) R CellsOf.nil))
       obtain ⟨g, A, m⟩ := Bs m
       have Z := bowl_Arrive_w bg ba bb O be bf bd (Ad B 0) 1 ([((O).length : Int)]) (Ad H 0) 1 ([aI.1]) _ ap (fl [[D], [a], [b], d]) (MS.fold (P := []) e) (w.sub fl1) (x.sub fl1) (a0.sub fl1) (bh.sub fl1) A
       refine Xc 6 #[] #[] _ _ R R R R Z ?_
       rintro aA bJ ⟨p, I, j, J, rfl, C, aY, ad, q, r⟩
       refine ⟨.inr (C.nil), ?_⟩
       have f := Stp.call0 [[D], [a], [b], d] [Bk p, Bk j] [Bk p, Bk j, [D], [a], [b], d] C ad R
       have l := C.box l nn
       have h := h.step f
       have n := C.box n nn
       have ax := C.box ax nn
       have e := MS.call0 [Bk p, Bk j] [Bk p, Bk j, [D], [a], [b], d] e C aY ad R
       have al := FR.call0 [Bk p, Bk j, [D], [a], [b]] i.size ad k R
       have i := i.ext C
       have k := al
       have q := OwnS.plain (M' := fl [Bk p, Bk j, [D], [a], [b], d]) (Pi _) q
       have r := OwnS.plain (M' := fl [Bk p, Bk j, [D], [a], [b], d]) (Pi _) r
       have v := e.pk [1, 2, 3, 4, 5] [Bk j, [D], [a], [b], d] R
       have o := Pk (ls := [Bk p, Bk j, [D], [a], [b], d]) [1, 2, 3, 4, 5] [Bk j, [D], [a], [b], d] R
       have h := h.sub o
       have q := q.ro o (pick_out e 0 R [some 1, some 2, some 3, some 4, some 5] [Bk j, [D], [a], [b], d] R R)
       have r := r.sub o
       have e := v
       have k := k.pk [1, 2, 3, 4] [Bk j, [D], [a], [b]] R
       have v := e.pk [1, 2, 3, 4] [[D], [a], [b], d] R
       have o := Pk (ls := [Bk j, [D], [a], [b], d]) [1, 2, 3, 4] [[D], [a], [b], d] R
       have h := h.sub o
       have q := q.sub o
       have r := r.ro o (pick_out e 0 R [some 1, some 2, some 3, some 4] [[D], [a], [b], d] R R)
       have e := v
       have k := k.pk [1, 2, 3] [[D], [a], [b]] R
       refine Xu 4 [(31, .tuple #[.agg #[Vi g.1.1, Vl p g.1.2.1 I, Vl j g.1.2.2 J], Vi g.2.1, Vi g.2.2]), (42, .agg #[Vi g.1.1, Vl p g.1.2.1 I, Vl j g.1.2.2 J]), (43, Vi g.2.1), (44, Vi g.2.2)] ?_
       obtain ⟨aG, aE, aB, G⟩ := Sa [Vi g.1.1, Vl p g.1.2.1 I, Vl j g.1.2.2 J] tagg26 ax R R R
       refine Ys aG _ _ R aE (I1 ?_)
       have f := Stp.ev' (ls := [[D], [a], [b], d]) G (Mf 0 R)
       have l := G.box l (e.apart 1 0 R R R _ mem1)
       have h := h.step f
       have n := G.box n (e.apart 2 0 R R R _ mem1)
       have q := q.step f
       have r := r.step f
       have e := e.ev G
       have i := i.then G (fun t u => .inr (k.at 0 R t u))
       have ax := aB
       refine Xu 2 [(7, Vi g.2.1), (8, Vi g.2.2)] (Xe R (t_stop (Kt (Cn [(3, Vp a 0), (4, Vp b 0), (5, Vi Q), (6, Vp D 0), (8, Vi g.2.2)] (fun aS => ?_)))))
       refine Cq (Cs (Xu 2 [(45, Vi g.2.2), (46, .bool (g.2.2 != 0))] (Xk (Ci (g.2.2 != 0) R m (fun m => ?_) (fun m => ?_)))))
       · refine Cs (Xu 1 [(2, .bool false)] (Xk (Cr (Kr (Kb (Kr ?_))))))
         obtain rfl := Sj m
         have am := Sj az
         subst am
         have m := bs
         refine Kr (Kb (Kr (Rr (Rv [.bool false] ⟨R, T0⟩ ?_))))
         obtain rfl := Sj m
         exact ⟨R, i⟩
       refine Ck (Kt (Cp (Yl _ _ R (Ra 0 [Vi g.1.1, Vl p g.1.2.1 I, Vl j g.1.2.2 J] tagg26 ax nn R) ?_)))
       obtain ⟨aH, aF, aC, S⟩ := Sa [Vi g.1.1, Vl p g.1.2.1 I, Vl j g.1.2.2 J] tagg26 n R R R
       refine Ys aH _ _ R aF (I1 ?_)
       have f := Stp.ev' (ls := [[D], [a], [b], d]) S (Mf 2 R)
       have l := S.box l (e.apart 1 2 R R R _ mem1)
       have h := h.step f
       have q := q.step f
       have r := r.step f
       have e := e.ev S
       have i := i.then S (fun t u => .inr (k.at 2 R t u))
       have n := aC
       refine Xe R (Kl (Kt (Cp (Xu 3 [(29, Vi Q), (30, Vi (i64.wrap (Q - 1))), (5, Vi (i64.wrap (Q - 1)))] (Xe R ?_)))))
       obtain rfl := Sj m
       have v := e.pk [1, 2, 3] [[a], [b], d] R
       have o := Pk (ls := [[D], [a], [b], d]) [1, 2, 3] [[a], [b], d] R
       have h := h.sub o
       have q := q.sub o
       have r := r.sub o
       have e := v
       have k := k.pk [1, 2] [[a], [b]] R
       exact Kt ⟨(bj, aI.2, g.1.1, g.1.2.1, g.1.2.2, i64.wrap (Q - 1), p, I, j, J), ⟨R, R, R, T0⟩, ⟨az, i, e, k, h, l, q, r, n⟩, Ns _⟩
     refine t_alt _ R ?_ ?_
     · refine Xb (vs := [(0, Vi 80), (1, Vi 142), (2, Vi 262), (3, Vi 400)]) #[Vi 80, Vi 142, Vi 262, Vi 400] 3 R R R (by kernel_rfl) (fun B bB bS au aL cX => ?_)
       refine ⟨.inr (aL.nil), ?_⟩
       have ab := e
       have f := Stp.ext (ls := [[D], [a], [b], d]) aL
       have l := aL.box l nn
       have h := h.step f
       have n := aL.box n nn
       have w := w.step f
       have x := x.step f
       have ax := aL.box ax nn
       have e := e.ev aL
       have i := i.ext aL
       have a0 : SlR eI bB (fl [[D], [a], [b], d]) (Ad B 0) 4 ([80, 142, 262, 400]) := ro_of_box ab bS au R R (cells_at (cs := [Vi 80, Vi 142, Vi 262, Vi 400]) (CellsOf.cons (c := [Vi 80]) R (CellsOf.cons (c := [Vi 142]) R (CellsOf.cons (c := [Vi 262]) R (CellsOf.cons (c := [Vi 400]) R CellsOf.nil)))))
       refine Xe R (t_alt _ R ?_ ?_)
       · refine Xb (vs := [(0, Vi ((O).length : Int))]) #[Vi ((O).length : Int)] 3 R R R (by kernel_rfl) (fun F a8 bA ao af cf => ?_)
         refine ⟨.inr (af.nil), ?_⟩
         have ab := e
         have f := Stp.ext (ls := [[D], [a], [b], d]) af
         have l := af.box l nn
         have h := h.step f
         have n := af.box n nn
         have w := w.step f
         have x := x.step f
         have ax := af.box ax nn
         have a0 := a0.step f
         have e := e.ev af
         have i := i.ext af
         have aZ : SlR eI a8 (fl [[D], [a], [b], d]) (Ad F 0) 1 ([((O).length : Int)]) := ro_of_box ab bA ao R R (cells_at (cs := [Vi ((O).length : Int)]) (CellsOf.cons (c := [Vi ((O).length : Int)]) R CellsOf.nil))
         obtain ⟨aI, A, m⟩ := Bs m
         have v : MS a8 ([[a]] ++ [[D], [b], d]) := e.pk [1, 0, 2, 3] _ R
         have a5 : ∀ s ∈ fl ([[a]] ++ [[D], [b], d]), s ∈ fl [[D], [a], [b], d] := Pk [1, 0, 2, 3] _ R
         have ak : ∀ s ∈ fl ([[a]] ++ [(fl [[D], [b], d])]), s ∈ fl [[D], [a], [b], d] := fun s A => a5 s (Fu s A)
         have Z := gen_Maker_Pick_w a bC bD bu.1 bN (Ad B 0) 4 ([80, 142, 262, 400]) _ a8 (fl [[D], [b], d]) (v.fold (P := [[a]])) (h.sub ak) l (a0.sub ak) A
         refine Xc 7 #[] #[] _ _ R R R R Z ?_
         rintro aA cZ ⟨rfl, aU, b1⟩
         refine ⟨.inr aU, ?_⟩
         have aq : MS a8 ([[a]] ++ [[D], [b], d]) := e.pk [1, 0, 2, 3] _ R
         have ay : ∀ s ∈ fl ([[a]] ++ [[D], [b], d]), s ∈ fl [[D], [a], [b], d] := Pk [1, 0, 2, 3] _ R
         have a6 := Stp.call (LS := [[D], [a], [b], d]) (res := []) (par := [[a]]) (R := [[D], [b], d]) aU (fun t u => ay t (fl_left' (P := [[a]]) t u)) (FR.nil _) (NP.init _ _) (fun s A => ay s (fl_right' (P := [[a]]) s A))
         have a1 : ∀ s ∈ fl [[D], [a], [b], d], s ∈ fl ([] ++ ([[a]] ++ [[D], [b], d])) := Pk [1, 0, 2, 3] _ R
         have f := a6.res a1
         have h := h.step f
         have n := aU.box n ((MS.outs (P := [[a]]) aq 1 R) _ mem1)
         have w := w.step f
         have x := x.step f
         have ax := aU.box ax ((MS.outs (P := [[a]]) aq 0 R) _ mem1)
         have aZ := aZ.step f
         have e := e.ev aU
         have a2 : ∀ t ∈ fl [[a]], a7.heap.size ≤ t := FR.mem (ls := [[a]]) (k.pk [1] _ R)
         have i := i.then aU (fun t u => .inr (a2 t u))
         have l := b1
         refine Xb (vs := [(0, Vi aI.1)]) #[Vi aI.1] 3 R R R (by kernel_rfl) (fun H ap aD ae E bH => ?_)
         refine ⟨.inr (E.nil), ?_⟩
         have ab := e
         have f := Stp.ext (ls := [[D], [a], [b], d]) E
         have l := E.box l nn
         have h := h.step f
         have n := E.box n nn
         have w := w.step f
         have x := x.step f
         have ax := E.box ax nn
         have aZ := aZ.step f
         have e := e.ev E
         have i := i.ext E
         have bh : SlR eI ap (fl [[D], [a], [b], d]) (Ad H 0) 1 ([aI.1]) := ro_of_box ab aD ae R R (cells_at (cs := [Vi aI.1]) (CellsOf.cons (c := [Vi aI.1]) R CellsOf.nil))
         obtain ⟨g, A, m⟩ := Bs m
         have Z := bowl_Arrive_w bg ba bb O be bf bd (Ad F 0) 1 ([((O).length : Int)]) (Ad H 0) 1 ([aI.1]) _ ap (fl [[D], [a], [b], d]) (MS.fold (P := []) e) (w.sub fl1) (x.sub fl1) (aZ.sub fl1) (bh.sub fl1) A
         refine Xc 6 #[] #[] _ _ R R R R Z ?_
         rintro aA bJ ⟨p, I, j, J, rfl, C, aY, ad, q, r⟩
         refine ⟨.inr (C.nil), ?_⟩
         have f := Stp.call0 [[D], [a], [b], d] [Bk p, Bk j] [Bk p, Bk j, [D], [a], [b], d] C ad R
         have l := C.box l nn
         have h := h.step f
         have n := C.box n nn
         have ax := C.box ax nn
         have e := MS.call0 [Bk p, Bk j] [Bk p, Bk j, [D], [a], [b], d] e C aY ad R
         have al := FR.call0 [Bk p, Bk j, [D], [a], [b]] i.size ad k R
         have i := i.ext C
         have k := al
         have q := OwnS.plain (M' := fl [Bk p, Bk j, [D], [a], [b], d]) (Pi _) q
         have r := OwnS.plain (M' := fl [Bk p, Bk j, [D], [a], [b], d]) (Pi _) r
         have v := e.pk [1, 2, 3, 4, 5] [Bk j, [D], [a], [b], d] R
         have o := Pk (ls := [Bk p, Bk j, [D], [a], [b], d]) [1, 2, 3, 4, 5] [Bk j, [D], [a], [b], d] R
         have h := h.sub o
         have q := q.ro o (pick_out e 0 R [some 1, some 2, some 3, some 4, some 5] [Bk j, [D], [a], [b], d] R R)
         have r := r.sub o
         have e := v
         have k := k.pk [1, 2, 3, 4] [Bk j, [D], [a], [b]] R
         have v := e.pk [1, 2, 3, 4] [[D], [a], [b], d] R
         have o := Pk (ls := [Bk j, [D], [a], [b], d]) [1, 2, 3, 4] [[D], [a], [b], d] R
         have h := h.sub o
         have q := q.sub o
         have r := r.ro o (pick_out e 0 R [some 1, some 2, some 3, some 4] [[D], [a], [b], d] R R)
         have e := v
         have k := k.pk [1, 2, 3] [[D], [a], [b]] R
         refine Xu 4 [(31, .tuple #[.agg #[Vi g.1.1, Vl p g.1.2.1 I, Vl j g.1.2.2 J], Vi g.2.1, Vi g.2.2]), (42, .agg #[Vi g.1.1, Vl p g.1.2.1 I, Vl j g.1.2.2 J]), (43, Vi g.2.1), (44, Vi g.2.2)] ?_
         obtain ⟨aG, aE, aB, G⟩ := Sa [Vi g.1.1, Vl p g.1.2.1 I, Vl j g.1.2.2 J] tagg26 ax R R R
         refine Ys aG _ _ R aE (I1 ?_)
         have f := Stp.ev' (ls := [[D], [a], [b], d]) G (Mf 0 R)
         have l := G.box l (e.apart 1 0 R R R _ mem1)
         have h := h.step f
         have n := G.box n (e.apart 2 0 R R R _ mem1)
         have q := q.step f
         have r := r.step f
         have e := e.ev G
         have i := i.then G (fun t u => .inr (k.at 0 R t u))
         have ax := aB
         refine Xu 2 [(7, Vi g.2.1), (8, Vi g.2.2)] (Xe R (t_stop (Kt (Cn [(3, Vp a 0), (4, Vp b 0), (5, Vi Q), (6, Vp D 0), (8, Vi g.2.2)] (fun aS => ?_)))))
         refine Cq (Cs (Xu 2 [(45, Vi g.2.2), (46, .bool (g.2.2 != 0))] (Xk (Ci (g.2.2 != 0) R m (fun m => ?_) (fun m => ?_)))))
         · refine Cs (Xu 1 [(2, .bool false)] (Xk (Cr (Kr (Kb (Kr ?_))))))
           obtain rfl := Sj m
           have am := Sj az
           subst am
           have m := bs
           refine Kr (Kb (Kr (Rr (Rv [.bool false] ⟨R, T0⟩ ?_))))
           obtain rfl := Sj m
           exact ⟨R, i⟩
         refine Ck (Kt (Cp (Yl _ _ R (Ra 0 [Vi g.1.1, Vl p g.1.2.1 I, Vl j g.1.2.2 J] tagg26 ax nn R) ?_)))
         obtain ⟨aH, aF, aC, S⟩ := Sa [Vi g.1.1, Vl p g.1.2.1 I, Vl j g.1.2.2 J] tagg26 n R R R
         refine Ys aH _ _ R aF (I1 ?_)
         have f := Stp.ev' (ls := [[D], [a], [b], d]) S (Mf 2 R)
         have l := S.box l (e.apart 1 2 R R R _ mem1)
         have h := h.step f
         have q := q.step f
         have r := r.step f
         have e := e.ev S
         have i := i.then S (fun t u => .inr (k.at 2 R t u))
         have n := aC
         refine Xe R (Kl (Kt (Cp (Xu 3 [(29, Vi Q), (30, Vi (i64.wrap (Q - 1))), (5, Vi (i64.wrap (Q - 1)))] (Xe R ?_)))))
         obtain rfl := Sj m
         have v := e.pk [1, 2, 3] [[a], [b], d] R
         have o := Pk (ls := [[D], [a], [b], d]) [1, 2, 3] [[a], [b], d] R
         have h := h.sub o
         have q := q.sub o
         have r := r.sub o
         have e := v
         have k := k.pk [1, 2] [[a], [b]] R
         exact Kt ⟨(bj, aI.2, g.1.1, g.1.2.1, g.1.2.2, i64.wrap (Q - 1), p, I, j, J), ⟨R, R, R, T0⟩, ⟨az, i, e, k, h, l, q, r, n⟩, Ns _⟩
       refine t_alt _ R ?_ ?_
       · obtain ⟨aj, A, m⟩ := Bs m
         have v : MS bB ([[a]] ++ [[D], [b], d]) := e.pk [1, 0, 2, 3] _ R
         have a5 : ∀ s ∈ fl ([[a]] ++ [[D], [b], d]), s ∈ fl [[D], [a], [b], d] := Pk [1, 0, 2, 3] _ R
         have ak : ∀ s ∈ fl ([[a]] ++ [(fl [[D], [b], d])]), s ∈ fl [[D], [a], [b], d] := fun s A => a5 s (Fu s A)
         have Z := gen_Maker_Pick_w a bC bD bu.1 bN (Ad B 0) 4 ([80, 142, 262, 400]) _ bB (fl [[D], [b], d]) (v.fold (P := [[a]])) (h.sub ak) l (a0.sub ak) A
         refine Xc 7 #[] #[] _ _ R R R R Z ?_
         rintro aA du ⟨rfl, bt, cz⟩
         refine ⟨.inr bt, ?_⟩
         have aq : MS bB ([[a]] ++ [[D], [b], d]) := e.pk [1, 0, 2, 3] _ R
         have ay : ∀ s ∈ fl ([[a]] ++ [[D], [b], d]), s ∈ fl [[D], [a], [b], d] := Pk [1, 0, 2, 3] _ R
         have a6 := Stp.call (LS := [[D], [a], [b], d]) (res := []) (par := [[a]]) (R := [[D], [b], d]) bt (fun t u => ay t (fl_left' (P := [[a]]) t u)) (FR.nil _) (NP.init _ _) (fun s A => ay s (fl_right' (P := [[a]]) s A))
         have a1 : ∀ s ∈ fl [[D], [a], [b], d], s ∈ fl ([] ++ ([[a]] ++ [[D], [b], d])) := Pk [1, 0, 2, 3] _ R
         have f := a6.res a1
         have h := h.step f
         have n := bt.box n ((MS.outs (P := [[a]]) aq 1 R) _ mem1)
         have w := w.step f
         have x := x.step f
         have ax := bt.box ax ((MS.outs (P := [[a]]) aq 0 R) _ mem1)
         have e := e.ev bt
         have a2 : ∀ t ∈ fl [[a]], a7.heap.size ≤ t := FR.mem (ls := [[a]]) (k.pk [1] _ R)
         have i := i.then bt (fun t u => .inr (a2 t u))
         have l := cz
         refine Xe R (t_alt _ R ?_ ?_)
         · refine Xb (vs := [(0, Vi ((O).length : Int))]) #[Vi ((O).length : Int)] 3 R R R (by kernel_rfl) (fun L bi a4 ag Y bZ => ?_)
           refine ⟨.inr (Y.nil), ?_⟩
           have ab := e
           have f := Stp.ext (ls := [[D], [a], [b], d]) Y
           have l := Y.box l nn
           have h := h.step f
           have n := Y.box n nn
           have w := w.step f
           have x := x.step f
           have ax := Y.box ax nn
           have e := e.ev Y
           have i := i.ext Y
           have aO : SlR eI bi (fl [[D], [a], [b], d]) (Ad L 0) 1 ([((O).length : Int)]) := ro_of_box ab a4 ag R R (cells_at (cs := [Vi ((O).length : Int)]) (CellsOf.cons (c := [Vi ((O).length : Int)]) R CellsOf.nil))
           refine Xb (vs := [(0, Vi aj.1)]) #[Vi aj.1] 3 R R R (by kernel_rfl) (fun H ap aD ae E bH => ?_)
           refine ⟨.inr (E.nil), ?_⟩
           have ab := e
           have f := Stp.ext (ls := [[D], [a], [b], d]) E
           have l := E.box l nn
           have h := h.step f
           have n := E.box n nn
           have w := w.step f
           have x := x.step f
           have ax := E.box ax nn
           have aO := aO.step f
           have e := e.ev E
           have i := i.ext E
           have bh : SlR eI ap (fl [[D], [a], [b], d]) (Ad H 0) 1 ([aj.1]) := ro_of_box ab aD ae R R (cells_at (cs := [Vi aj.1]) (CellsOf.cons (c := [Vi aj.1]) R CellsOf.nil))
           obtain ⟨g, A, m⟩ := Bs m
           have Z := bowl_Arrive_w bg ba bb O be bf bd (Ad L 0) 1 ([((O).length : Int)]) (Ad H 0) 1 ([aj.1]) _ ap (fl [[D], [a], [b], d]) (MS.fold (P := []) e) (w.sub fl1) (x.sub fl1) (aO.sub fl1) (bh.sub fl1) A
           refine Xc 6 #[] #[] _ _ R R R R Z ?_
           rintro aA bJ ⟨p, I, j, J, rfl, C, aY, ad, q, r⟩
           refine ⟨.inr (C.nil), ?_⟩
           have f := Stp.call0 [[D], [a], [b], d] [Bk p, Bk j] [Bk p, Bk j, [D], [a], [b], d] C ad R
           have l := C.box l nn
           have h := h.step f
           have n := C.box n nn
           have ax := C.box ax nn
           have e := MS.call0 [Bk p, Bk j] [Bk p, Bk j, [D], [a], [b], d] e C aY ad R
           have al := FR.call0 [Bk p, Bk j, [D], [a], [b]] i.size ad k R
           have i := i.ext C
           have k := al
           have q := OwnS.plain (M' := fl [Bk p, Bk j, [D], [a], [b], d]) (Pi _) q
           have r := OwnS.plain (M' := fl [Bk p, Bk j, [D], [a], [b], d]) (Pi _) r
           have v := e.pk [1, 2, 3, 4, 5] [Bk j, [D], [a], [b], d] R
           have o := Pk (ls := [Bk p, Bk j, [D], [a], [b], d]) [1, 2, 3, 4, 5] [Bk j, [D], [a], [b], d] R
           have h := h.sub o
           have q := q.ro o (pick_out e 0 R [some 1, some 2, some 3, some 4, some 5] [Bk j, [D], [a], [b], d] R R)
           have r := r.sub o
           have e := v
           have k := k.pk [1, 2, 3, 4] [Bk j, [D], [a], [b]] R
           have v := e.pk [1, 2, 3, 4] [[D], [a], [b], d] R
           have o := Pk (ls := [Bk j, [D], [a], [b], d]) [1, 2, 3, 4] [[D], [a], [b], d] R
           have h := h.sub o
           have q := q.sub o
           have r := r.ro o (pick_out e 0 R [some 1, some 2, some 3, some 4] [[D], [a], [b], d] R R)
           have e := v
           have k := k.pk [1, 2, 3] [[D], [a], [b]] R
           refine Xu 4 [(31, .tuple #[.agg #[Vi g.1.1, Vl p g.1.2.1 I, Vl j g.1.2.2 J], Vi g.2.1, Vi g.2.2]), (42, .agg #[Vi g.1.1, Vl p g.1.2.1 I, Vl j g.1.2.2 J]), (43, Vi g.2.1), (44, Vi g.2.2)] ?_
           obtain ⟨aG, aE, aB, G⟩ := Sa [Vi g.1.1, Vl p g.1.2.1 I, Vl j g.1.2.2 J] tagg26 ax R R R
           refine Ys aG _ _ R aE (I1 ?_)
           have f := Stp.ev' (ls := [[D], [a], [b], d]) G (Mf 0 R)
           have l := G.box l (e.apart 1 0 R R R _ mem1)
           have h := h.step f
           have n := G.box n (e.apart 2 0 R R R _ mem1)
           have q := q.step f
           have r := r.step f
           have e := e.ev G
           have i := i.then G (fun t u => .inr (k.at 0 R t u))
           have ax := aB
           refine Xu 2 [(7, Vi g.2.1), (8, Vi g.2.2)] (Xe R (t_stop (Kt (Cn [(3, Vp a 0), (4, Vp b 0), (5, Vi Q), (6, Vp D 0), (8, Vi g.2.2)] (fun aS => ?_)))))
           refine Cq (Cs (Xu 2 [(45, Vi g.2.2), (46, .bool (g.2.2 != 0))] (Xk (Ci (g.2.2 != 0) R m (fun m => ?_) (fun m => ?_)))))
           · refine Cs (Xu 1 [(2, .bool false)] (Xk (Cr (Kr (Kb (Kr ?_))))))
             obtain rfl := Sj m
             have am := Sj az
             subst am
             have m := bs
             refine Kr (Kb (Kr (Rr (Rv [.bool false] ⟨R, T0⟩ ?_))))
             obtain rfl := Sj m
             exact ⟨R, i⟩
           refine Ck (Kt (Cp (Yl _ _ R (Ra 0 [Vi g.1.1, Vl p g.1.2.1 I, Vl j g.1.2.2 J] tagg26 ax nn R) ?_)))
           obtain ⟨aH, aF, aC, S⟩ := Sa [Vi g.1.1, Vl p g.1.2.1 I, Vl j g.1.2.2 J] tagg26 n R R R
           refine Ys aH _ _ R aF (I1 ?_)
           have f := Stp.ev' (ls := [[D], [a], [b], d]) S (Mf 2 R)
           have l := S.box l (e.apart 1 2 R R R _ mem1)
           have h := h.step f
           have q := q.step f
           have r := r.step f
           have e := e.ev S
           have i := i.then S (fun t u => .inr (k.at 2 R t u))
           have n := aC
           refine Xe R (Kl (Kt (Cp (Xu 3 [(29, Vi Q), (30, Vi (i64.wrap (Q - 1))), (5, Vi (i64.wrap (Q - 1)))] (Xe R ?_)))))
           obtain rfl := Sj m
           have v := e.pk [1, 2, 3] [[a], [b], d] R
           have o := Pk (ls := [[D], [a], [b], d]) [1, 2, 3] [[a], [b], d] R
           have h := h.sub o
           have q := q.sub o
           have r := r.sub o
           have e := v
           have k := k.pk [1, 2] [[a], [b]] R
           exact Kt ⟨(bj, aj.2, g.1.1, g.1.2.1, g.1.2.2, i64.wrap (Q - 1), p, I, j, J), ⟨R, R, R, T0⟩, ⟨az, i, e, k, h, l, q, r, n⟩, Ns _⟩
         refine t_alt _ R ?_ ?_
         · refine Xb (vs := [(0, Vi aj.1)]) #[Vi aj.1] 3 R R R (by kernel_rfl) (fun L bi a4 ag Y bZ => ?_)
           refine ⟨.inr (Y.nil), ?_⟩
           have ab := e
           have f := Stp.ext (ls := [[D], [a], [b], d]) Y
           have l := Y.box l nn
           have h := h.step f
           have n := Y.box n nn
           have w := w.step f
           have x := x.step f
           have ax := Y.box ax nn
           have e := e.ev Y
           have i := i.ext Y
           have aO : SlR eI bi (fl [[D], [a], [b], d]) (Ad L 0) 1 ([aj.1]) := ro_of_box ab a4 ag R R (cells_at (cs := [Vi aj.1]) (CellsOf.cons (c := [Vi aj.1]) R CellsOf.nil))
           refine Xb (vs := [(0, Vi ((O).length : Int))]) #[Vi ((O).length : Int)] 3 R R R (by kernel_rfl) (fun H ap aD ae E bH => ?_)
           refine ⟨.inr (E.nil), ?_⟩
           have ab := e
           have f := Stp.ext (ls := [[D], [a], [b], d]) E
           have l := E.box l nn
           have h := h.step f
           have n := E.box n nn
           have w := w.step f
           have x := x.step f
           have ax := E.box ax nn
           have aO := aO.step f
           have e := e.ev E
           have i := i.ext E
           have bh : SlR eI ap (fl [[D], [a], [b], d]) (Ad H 0) 1 ([((O).length : Int)]) := ro_of_box ab aD ae R R (cells_at (cs := [Vi ((O).length : Int)]) (CellsOf.cons (c := [Vi ((O).length : Int)]) R CellsOf.nil))
           obtain ⟨g, A, m⟩ := Bs m
           have Z := bowl_Arrive_w bg ba bb O be bf bd (Ad H 0) 1 ([((O).length : Int)]) (Ad L 0) 1 ([aj.1]) _ ap (fl [[D], [a], [b], d]) (MS.fold (P := []) e) (w.sub fl1) (x.sub fl1) (bh.sub fl1) (aO.sub fl1) A
           refine Xc 6 #[] #[] _ _ R R R R Z ?_
           rintro aA bJ ⟨p, I, j, J, rfl, C, aY, ad, q, r⟩
           refine ⟨.inr (C.nil), ?_⟩
           have f := Stp.call0 [[D], [a], [b], d] [Bk p, Bk j] [Bk p, Bk j, [D], [a], [b], d] C ad R
           have l := C.box l nn
           have h := h.step f
           have n := C.box n nn
           have ax := C.box ax nn
           have e := MS.call0 [Bk p, Bk j] [Bk p, Bk j, [D], [a], [b], d] e C aY ad R
           have al := FR.call0 [Bk p, Bk j, [D], [a], [b]] i.size ad k R
           have i := i.ext C
           have k := al
           have q := OwnS.plain (M' := fl [Bk p, Bk j, [D], [a], [b], d]) (Pi _) q
           have r := OwnS.plain (M' := fl [Bk p, Bk j, [D], [a], [b], d]) (Pi _) r
           have v := e.pk [1, 2, 3, 4, 5] [Bk j, [D], [a], [b], d] R
           have o := Pk (ls := [Bk p, Bk j, [D], [a], [b], d]) [1, 2, 3, 4, 5] [Bk j, [D], [a], [b], d] R
           have h := h.sub o
           have q := q.ro o (pick_out e 0 R [some 1, some 2, some 3, some 4, some 5] [Bk j, [D], [a], [b], d] R R)
           have r := r.sub o
           have e := v
           have k := k.pk [1, 2, 3, 4] [Bk j, [D], [a], [b]] R
           have v := e.pk [1, 2, 3, 4] [[D], [a], [b], d] R
           have o := Pk (ls := [Bk j, [D], [a], [b], d]) [1, 2, 3, 4] [[D], [a], [b], d] R
           have h := h.sub o
           have q := q.sub o
           have r := r.ro o (pick_out e 0 R [some 1, some 2, some 3, some 4] [[D], [a], [b], d] R R)
           have e := v
           have k := k.pk [1, 2, 3] [[D], [a], [b]] R
           refine Xu 4 [(31, .tuple #[.agg #[Vi g.1.1, Vl p g.1.2.1 I, Vl j g.1.2.2 J], Vi g.2.1, Vi g.2.2]), (42, .agg #[Vi g.1.1, Vl p g.1.2.1 I, Vl j g.1.2.2 J]), (43, Vi g.2.1), (44, Vi g.2.2)] ?_
           obtain ⟨aG, aE, aB, G⟩ := Sa [Vi g.1.1, Vl p g.1.2.1 I, Vl j g.1.2.2 J] tagg26 ax R R R
           refine Ys aG _ _ R aE (I1 ?_)
           have f := Stp.ev' (ls := [[D], [a], [b], d]) G (Mf 0 R)
           have l := G.box l (e.apart 1 0 R R R _ mem1)
           have h := h.step f
           have n := G.box n (e.apart 2 0 R R R _ mem1)
           have q := q.step f
           have r := r.step f
           have e := e.ev G
           have i := i.then G (fun t u => .inr (k.at 0 R t u))
           have ax := aB
           refine Xu 2 [(7, Vi g.2.1), (8, Vi g.2.2)] (Xe R (t_stop (Kt (Cn [(3, Vp a 0), (4, Vp b 0), (5, Vi Q), (6, Vp D 0), (8, Vi g.2.2)] (fun aS => ?_)))))
           refine Cq (Cs (Xu 2 [(45, Vi g.2.2), (46, .bool (g.2.2 != 0))] (Xk (Ci (g.2.2 != 0) R m (fun m => ?_) (fun m => ?_)))))
           · refine Cs (Xu 1 [(2, .bool false)] (Xk (Cr (Kr (Kb (Kr ?_))))))
             obtain rfl := Sj m
             have am := Sj az
             subst am
             have m := bs
             refine Kr (Kb (Kr (Rr (Rv [.bool false] ⟨R, T0⟩ ?_))))
             obtain rfl := Sj m
             exact ⟨R, i⟩
           refine Ck (Kt (Cp (Yl _ _ R (Ra 0 [Vi g.1.1, Vl p g.1.2.1 I, Vl j g.1.2.2 J] tagg26 ax nn R) ?_)))
           obtain ⟨aH, aF, aC, S⟩ := Sa [Vi g.1.1, Vl p g.1.2.1 I, Vl j g.1.2.2 J] tagg26 n R R R
           refine Ys aH _ _ R aF (I1 ?_)
           have f := Stp.ev' (ls := [[D], [a], [b], d]) S (Mf 2 R)
           have l := S.box l (e.apart 1 2 R R R _ mem1)
           have h := h.step f
           have q := q.step f
           have r := r.step f
           have e := e.ev S
           have i := i.then S (fun t u => .inr (k.at 2 R t u))
           have n := aC
           refine Xe R (Kl (Kt (Cp (Xu 3 [(29, Vi Q), (30, Vi (i64.wrap (Q - 1))), (5, Vi (i64.wrap (Q - 1)))] (Xe R ?_)))))
           obtain rfl := Sj m
           have v := e.pk [1, 2, 3] [[a], [b], d] R
           have o := Pk (ls := [[D], [a], [b], d]) [1, 2, 3] [[a], [b], d] R
           have h := h.sub o
           have q := q.sub o
           have r := r.sub o
           have e := v
           have k := k.pk [1, 2] [[a], [b]] R
           exact Kt ⟨(bj, aj.2, g.1.1, g.1.2.1, g.1.2.2, i64.wrap (Q - 1), p, I, j, J), ⟨R, R, R, T0⟩, ⟨az, i, e, k, h, l, q, r, n⟩, Ns _⟩
         exact t_none
       exact t_none
     exact t_none
   exact t_none
 refine Ce (Ke ?_)
 obtain rfl := Sj m
 have am := Sj az
 subst am
 have m := bs
 refine Ke (Ki (Kt (Cn [(3, Vp a 0), (4, Vp b 0)] (fun aS => ?_))))
 refine Cs (Xu 1 [(48, Vp a 0)] ?_)
 obtain ⟨b0, A, m⟩ := Bs m
 have v : MS ch ([[a]] ++ [[b], d]) := e.pk [0, 1, 2] _ R
 have a5 : ∀ s ∈ fl ([[a]] ++ [[b], d]), s ∈ fl [[a], [b], d] := Pk [0, 1, 2] _ R
 have ak : ∀ s ∈ fl ([[a]] ++ [(fl [[b], d])]), s ∈ fl [[a], [b], d] := fun s A => a5 s (Fu s A)
 have Z := gen_Maker_Pieces_w a bC bD bu.1 bN 3 _ ch (fl [[b], d]) (v.fold (P := [[a]])) (h.sub ak) l A
 refine Xc 8 #[] #[] _ _ R R R R Z ?_
 rintro aA eU ⟨br, dO, rfl, c3, el, ed, dj, aN⟩
 refine I1 ?_
 have aq : MS ch ([[a]] ++ [[b], d]) := e.pk [0, 1, 2] _ R
 have ay : ∀ s ∈ fl ([[a]] ++ [[b], d]), s ∈ fl [[a], [b], d] := Pk [0, 1, 2] _ R
 have a6 := Stp.call (LS := [[a], [b], d]) (res := [Bk br]) (par := [[a]]) (R := [[b], d]) c3 (fun t u => ay t (fl_left' (P := [[a]]) t u)) dj (NP.init _ _) (fun s A => ay s (fl_right' (P := [[a]]) s A))
 have a1 : ∀ s ∈ fl [Bk br, [a], [b], d], s ∈ fl ([Bk br] ++ ([[a]] ++ [[b], d])) := Pk [0, 1, 2, 3] _ R
 have f := a6.res a1
 have h := h.step f
 have n := c3.box n ((MS.outs (P := [[a]]) aq 0 R) _ mem1)
 have w := w.step f
 have x := x.step f
 replace e : MS eU [Bk br, [a], [b], d] := (MS.call (P := [[a]]) (R := [[b], d]) (res := [Bk br]) (par := [[a]]) aq c3 ed dj (NP.init _ _)).pick [some 0, some 1, some 2, some 3] _ R
 have a2 : ∀ t ∈ fl [[a]], a7.heap.size ≤ t := FR.mem (ls := [[a]]) (k.pk [0] _ R)
 have al : FR a7.heap.size [Bk br, [a], [b]] := (FR.cons (fun t u => Nat.le_trans i.size (dj.at 0 R t u)) (FR.cons (k.at 0 R) (FR.cons (k.at 1 R) (FR.nil _))))
 have i := i.then c3 (fun t u => .inr (a2 t u))
 have k := al
 have l := el
 have aN := OwnS.plain (M' := fl [Bk br, [a], [b], d]) (Pp (Pi _) (Pp (Pi _) (Pp (Pi _) (Pp (Pi _) (Pi _))))) aN
 refine Xd (vs := [(0, Vi 90), (1, Vi 9000), (4, Vi 30000000)]) (.agg #[Vi 90, Vi 9000, Vi 0, Vi 0, Vi 30000000]) R R R (fun _ _ => by kernel_rfl) ?_
 refine Xu 1 [(51, Vp a 0)] (Xb (vs := [(0, Vi 0), (1, Vi 20), (2, Vi 60)]) #[Vi 0, Vi 20, Vi 60] 3 R R R (by kernel_rfl) (fun dx c8 er dZ cF fd => ?_))
 refine I1 ?_
 have ab := e
 have f := Stp.ext (ls := [Bk br, [a], [b], d]) cF
 have l := cF.box l nn
 have h := h.step f
 have n := cF.box n nn
 have w := w.step f
 have x := x.step f
 have aN := aN.step f cF nn2
 have e := e.ev cF
 have i := i.ext cF
 have eF : SlR eI c8 (fl [Bk br, [a], [b], d]) (Ad dx 0) 3 ([0, 20, 60]) := ro_of_box ab er dZ R R (cells_at (cs := [Vi 0, Vi 20, Vi 60]) (CellsOf.cons (c := [Vi 0]) R (CellsOf.cons (c := [Vi 20]) R (CellsOf.cons (c := [Vi 60]) R CellsOf.nil))))
 obtain ⟨bE, A, m⟩ := Bs m
 have v : MS c8 ([[a]] ++ [Bk br, [b], d]) := e.pk [1, 0, 2, 3] _ R
 have a5 : ∀ s ∈ fl ([[a]] ++ [Bk br, [b], d]), s ∈ fl [Bk br, [a], [b], d] := Pk [1, 0, 2, 3] _ R
 have ak : ∀ s ∈ fl ([[a]] ++ [(fl [Bk br, [b], d])]), s ∈ fl [Bk br, [a], [b], d] := fun s A => a5 s (Fu s A)
 have Z := gen_Maker_Pick_w a bC bD bu.1 b0.2 (Ad dx 0) 3 ([0, 20, 60]) _ c8 (fl [Bk br, [b], d]) (v.fold (P := [[a]])) (h.sub ak) l (eF.sub ak) A
 refine Xc 7 #[] #[] _ _ R R R R Z ?_
 rintro aA fq ⟨rfl, cQ, em⟩
 refine I1 ?_
 have aq : MS c8 ([[a]] ++ [Bk br, [b], d]) := e.pk [1, 0, 2, 3] _ R
 have ay : ∀ s ∈ fl ([[a]] ++ [Bk br, [b], d]), s ∈ fl [Bk br, [a], [b], d] := Pk [1, 0, 2, 3] _ R
 have a6 := Stp.call (LS := [Bk br, [a], [b], d]) (res := []) (par := [[a]]) (R := [Bk br, [b], d]) cQ (fun t u => ay t (fl_left' (P := [[a]]) t u)) (FR.nil _) (NP.init _ _) (fun s A => ay s (fl_right' (P := [[a]]) s A))
 have a1 : ∀ s ∈ fl [Bk br, [a], [b], d], s ∈ fl ([] ++ ([[a]] ++ [Bk br, [b], d])) := Pk [1, 0, 2, 3] _ R
 have f := a6.res a1
 have h := h.step f
 have n := cQ.box n ((MS.outs (P := [[a]]) aq 1 R) _ mem1)
 have w := w.step f
 have x := x.step f
 have aN := aN.step f cQ (MS.outs (P := [[a]]) aq 0 R)
 have e := e.ev cQ
 have a2 : ∀ t ∈ fl [[a]], a7.heap.size ≤ t := FR.mem (ls := [[a]]) (k.pk [1] _ R)
 have i := i.then cQ (fun t u => .inr (a2 t u))
 have l := em
 refine Xd (vs := [(0, Vi 91), (1, Vi 400000), (2, Vi bE.1)]) (.agg #[Vi 91, Vi 400000, Vi bE.1, Vi 0, Vi 0]) R R R (fun _ _ => by kernel_rfl) ?_
 refine Xb (vs := [(0, .agg #[Vi 90, Vi 9000, Vi 0, Vi 0, Vi 30000000]), (1, .agg #[Vi 91, Vi 400000, Vi bE.1, Vi 0, Vi 0])]) #[Vi 90, Vi 9000, Vi 0, Vi 0, Vi 30000000, Vi 91, Vi 400000, Vi bE.1, Vi 0, Vi 0] 35 R R R (by kernel_rfl) (fun dy dH es d0 cG fe => ?_)
 refine I1 ?_
 have ab := e
 have f := Stp.ext (ls := [Bk br, [a], [b], d]) cG
 have l := cG.box l nn
 have h := h.step f
 have n := cG.box n nn
 have w := w.step f
 have x := x.step f
 have aN := aN.step f cG nn2
 have e := e.ev cG
 have i := i.ext cG
 have eG : SlR (eProd eI (eIt4)) dH (fl [Bk br, [a], [b], d]) (Ad dy 0) 2 ([(90, 9000, 0, 0, 30000000), (91, 400000, bE.1, 0, 0)] : List (Int × Int × Int × Int × Int)) := ro_of_box ab es d0 R R (cells_at (cs := [Vi 90, Vi 9000, Vi 0, Vi 0, Vi 30000000, Vi 91, Vi 400000, Vi bE.1, Vi 0, Vi 0]) (CellsOf.cons (c := [Vi 90, Vi 9000, Vi 0, Vi 0, Vi 30000000]) ⟨[Vi 90], [Vi 9000, Vi 0, Vi 0, Vi 30000000], R, R, ⟨[Vi 9000], [Vi 0, Vi 0, Vi 30000000], R, R, ⟨[Vi 0], [Vi 0, Vi 30000000], R, R, ⟨[Vi 0], [Vi 30000000], R, R, R⟩⟩⟩⟩ (CellsOf.cons (c := [Vi 91, Vi 400000, Vi bE.1, Vi 0, Vi 0]) ⟨[Vi 91], [Vi 400000, Vi bE.1, Vi 0, Vi 0], R, R, ⟨[Vi 400000], [Vi bE.1, Vi 0, Vi 0], R, R, ⟨[Vi bE.1], [Vi 0, Vi 0], R, R, ⟨[Vi 0], [Vi 0], R, R, R⟩⟩⟩⟩ CellsOf.nil)))
 have eb := Gl m
 have m := Gr m
 obtain ⟨aa, b4, cJ, ew, cS, dm, fc, eN⟩ := own_appendN tel32 32 aN (Mf 0 R) eG eb
 refine x_builtin (vs := [Vl br b0.1 dO, Vl (Ad dy 0) (([(90, 9000, 0, 0, 30000000), (91, 400000, bE.1, 0, 0)] : List (Int × Int × Int × Int × Int))) 2]) _ cJ R R R R (run_value _ _ _ _ ew) (I1 ?_)
 have f : Stp (fl [Bk br, [a], [b], d]) dH (fl [Bk aa, [a], [b], d]) cJ := Stp.upd 0 cS R (fun t u => (dm t u).1)
 have l := cS.box l (e.apart 1 0 R R R _ mem1)
 have h := h.step f
 have n := cS.box n (e.apart 2 0 R R R _ mem1)
 have w := w.step f
 have x := x.step f
 replace e : MS cJ [Bk aa, [a], [b], d] := e.upd 0 cS R dm
 have al : FR a7.heap.size [Bk aa, [a], [b]] := k.upd 0 R i.size (fun t u => (dm t u).1)
 have i := i.then cS (fun t u => .inr (k.at 0 R t u))
 have k := al
 have aN := eN (fl [Bk aa, [a], [b], d]) f.new
 refine Xu 1 [(9, Vl aa ((b0.1 ++ ([(90, 9000, 0, 0, 30000000), (91, 400000, bE.1, 0, 0)] : List (Int × Int × Int × Int × Int)))) b4)] (Xk (Cs (Xu 2 [(57, Vp a 0), (58, Vl aa ((b0.1 ++ ([(90, 9000, 0, 0, 30000000), (91, 400000, bE.1, 0, 0)] : List (Int × Int × Int × Int × Int)))) b4)] ?_)))
 obtain ⟨ar, A, m⟩ := Bs m
 have v : MS cJ ([[a]] ++ [[b], d]) := e.pk [1, 2, 3] _ R
 have a5 : ∀ s ∈ fl ([[a]] ++ [[b], d]), s ∈ fl [Bk aa, [a], [b], d] := Pk [1, 2, 3] _ R
 have ak : ∀ s ∈ fl ([[a]] ++ [(fl [[b], d])]), s ∈ fl [Bk aa, [a], [b], d] := fun s A => a5 s (Fu s A)
 have Z := gen_Maker_Motion_w a bC bD bu.1 bE.2 aa b4 (b0.1 ++ ([(90, 9000, 0, 0, 30000000), (91, 400000, bE.1, 0, 0)] : List (Int × Int × Int × Int × Int))) _ cJ (fl [[b], d]) (v.fold (P := [[a]])) (h.sub ak) l (aN.ro ak (fun t u dg => pick_out e 0 R [some 1, some 2, some 3] ([[a]] ++ [[b], d]) R R t u (Fu t dg))) A
 refine Xc 9 #[] #[] _ _ R R R R Z ?_
 rintro aA eX ⟨bK, b6, N, bY, rfl, cU, en, ee, c6, aw, av⟩
 refine I1 ?_
 have aq : MS cJ ([[a]] ++ [Bk aa, [b], d]) := e.pk [1, 0, 2, 3] _ R
 have ay : ∀ s ∈ fl ([[a]] ++ [Bk aa, [b], d]), s ∈ fl [Bk aa, [a], [b], d] := Pk [1, 0, 2, 3] _ R
 have a6 := Stp.call (LS := [Bk aa, [a], [b], d]) (res := [Bk bK, Bk N]) (par := [[a]]) (R := [Bk aa, [b], d]) cU (fun t u => ay t (fl_left' (P := [[a]]) t u)) c6 (NP.init _ _) (fun s A => ay s (fl_right' (P := [[a]]) s A))
 have a1 : ∀ s ∈ fl [Bk bK, Bk N, Bk aa, [a], [b], d], s ∈ fl ([Bk bK, Bk N] ++ ([[a]] ++ [Bk aa, [b], d])) := Pk [0, 1, 3, 2, 4, 5] _ R
 have f := a6.res a1
 have h := h.step f
 have n := cU.box n ((MS.outs (P := [[a]]) aq 1 R) _ mem1)
 have w := w.step f
 have x := x.step f
 have aN := aN.step f cU (MS.outs (P := [[a]]) aq 0 R)
 replace e : MS eX [Bk bK, Bk N, Bk aa, [a], [b], d] := (MS.call (P := [[a]]) (R := [Bk aa, [b], d]) (res := [Bk bK, Bk N]) (par := [[a]]) aq cU ee c6 (NP.init _ _)).pick [some 0, some 1, some 3, some 2, some 4, some 5] _ R
 have a2 : ∀ t ∈ fl [[a]], a7.heap.size ≤ t := FR.mem (ls := [[a]]) (k.pk [1] _ R)
 have al : FR a7.heap.size [Bk bK, Bk N, Bk aa, [a], [b]] := (FR.cons (fun t u => Nat.le_trans i.size (c6.at 0 R t u)) (FR.cons (fun t u => Nat.le_trans i.size (c6.at 1 R t u)) (FR.cons (k.at 0 R) (FR.cons (k.at 1 R) (FR.cons (k.at 2 R) (FR.nil _))))))
 have i := i.then cU (fun t u => .inr (a2 t u))
 have k := al
 have l := en
 have aw := OwnS.plain (M' := fl [Bk bK, Bk N, Bk aa, [a], [b], d]) (Pp (Pi _) (Pi _)) aw
 have av := OwnS.plain (M' := fl [Bk bK, Bk N, Bk aa, [a], [b], d]) (Pi _) av
 have v := e.pk [1, 2, 3, 4, 5] [Bk N, Bk aa, [a], [b], d] R
 have o := Pk (ls := [Bk bK, Bk N, Bk aa, [a], [b], d]) [1, 2, 3, 4, 5] [Bk N, Bk aa, [a], [b], d] R
 have h := h.sub o
 have w := w.sub o
 have x := x.sub o
 have aN := aN.sub o
 have aw := aw.ro o (pick_out e 0 R [some 1, some 2, some 3, some 4, some 5] [Bk N, Bk aa, [a], [b], d] R R)
 have av := av.sub o
 have e := v
 have k := k.pk [1, 2, 3, 4] [Bk N, Bk aa, [a], [b]] R
 refine Xa (z := .agg #[Vi 0, Vi 0, Z0, Vi 0, Z0]) R R (by kernel_rfl) (fun K eY dn aJ cm ff => ?_)
 replace aJ : eY.heap[K]? = some (.cells #[Vi 0, Vi 0, Z0, Vi 0, Z0] 40 (0, 0)) := aJ
 refine I1 ?_
 have f := Stp.box (ls := [Bk N, Bk aa, [a], [b], d]) cm dn
 have l := cm.box l nn
 have h := h.step f
 have n := cm.box n nn
 have w := w.step f
 have x := x.step f
 have aN := aN.step f cm nn2
 have aw := aw.step f
 have av := av.step f cm nn2
 have e := e.box cm dn aJ
 have k := k.box i.size dn
 have i := i.ext cm
 obtain ⟨eZ, ex, d1, cn⟩ := Sa [Vi ar.1.1.1, Vi ar.1.1.2, Vl bK ar.1.2.1 b6, Vi ar.1.2.2.1, Vl N ar.1.2.2.2 bY] tagg40 aJ R R R
 refine Ys eZ _ _ R ex (I1 ?_)
 have f := Stp.ev' (ls := [[K], Bk N, Bk aa, [a], [b], d]) cn (Mf 0 R)
 have l := cn.box l (e.apart 3 0 R R R _ mem1)
 have h := h.step f
 have n := cn.box n (e.apart 4 0 R R R _ mem1)
 have w := w.step f
 have x := x.step f
 have aN := aN.step f cn (e.apart 2 0 R R R)
 have aw := aw.step f
 have av := av.step f cn (e.apart 1 0 R R R)
 have e := e.ev cn
 have i := i.then cn (fun t u => .inr (k.at 0 R t u))
 have aJ := d1
 refine Xk (Cn [(3, Vp a 0), (4, Vp b 0), (9, Vl aa ((b0.1 ++ ([(90, 9000, 0, 0, 30000000), (91, 400000, bE.1, 0, 0)] : List (Int × Int × Int × Int × Int)))) b4), (10, Vp K 0)] (fun aS => ?_))
 refine Cs (Xu 1 [(60, Vp a 0)] (Xb (vs := [(0, Vi 300), (1, Vi 600), (2, Vi 900)]) #[Vi 300, Vi 600, Vi 900] 3 R R R (by kernel_rfl) (fun dz c9 et d2 b7 fg => ?_)))
 refine I1 ?_
 have ab := e
 have f := Stp.ext (ls := [[K], Bk N, Bk aa, [a], [b], d]) b7
 have l := b7.box l nn
 have h := h.step f
 have n := b7.box n nn
 have w := w.step f
 have x := x.step f
 have aN := aN.step f b7 nn2
 have aw := aw.step f
 have av := av.step f b7 nn2
 have aJ := b7.box aJ nn
 have e := e.ev b7
 have i := i.ext b7
 have eH : SlR eI c9 (fl [[K], Bk N, Bk aa, [a], [b], d]) (Ad dz 0) 3 ([300, 600, 900]) := ro_of_box ab et d2 R R (cells_at (cs := [Vi 300, Vi 600, Vi 900]) (CellsOf.cons (c := [Vi 300]) R (CellsOf.cons (c := [Vi 600]) R (CellsOf.cons (c := [Vi 900]) R CellsOf.nil))))
 obtain ⟨bv, A, m⟩ := Bs m
 have v : MS c9 ([[a]] ++ [[K], Bk N, Bk aa, [b], d]) := e.pk [3, 0, 1, 2, 4, 5] _ R
 have a5 : ∀ s ∈ fl ([[a]] ++ [[K], Bk N, Bk aa, [b], d]), s ∈ fl [[K], Bk N, Bk aa, [a], [b], d] := Pk [3, 0, 1, 2, 4, 5] _ R
 have ak : ∀ s ∈ fl ([[a]] ++ [(fl [[K], Bk N, Bk aa, [b], d])]), s ∈ fl [[K], Bk N, Bk aa, [a], [b], d] := fun s A => a5 s (Fu s A)
 have Z := gen_Maker_Pick_w a bC bD bu.1 ar.2 (Ad dz 0) 3 ([300, 600, 900]) _ c9 (fl [[K], Bk N, Bk aa, [b], d]) (v.fold (P := [[a]])) (h.sub ak) l (eH.sub ak) A
 refine Xc 7 #[] #[] _ _ R R R R Z ?_
 rintro aA fr ⟨rfl, co, eo⟩
 refine I1 ?_
 have aq : MS c9 ([[a]] ++ [[K], Bk N, Bk aa, [b], d]) := e.pk [3, 0, 1, 2, 4, 5] _ R
 have ay : ∀ s ∈ fl ([[a]] ++ [[K], Bk N, Bk aa, [b], d]), s ∈ fl [[K], Bk N, Bk aa, [a], [b], d] := Pk [3, 0, 1, 2, 4, 5] _ R
 have a6 := Stp.call (LS := [[K], Bk N, Bk aa, [a], [b], d]) (res := []) (par := [[a]]) (R := [[K], Bk N, Bk aa, [b], d]) co (fun t u => ay t (fl_left' (P := [[a]]) t u)) (FR.nil _) (NP.init _ _) (fun s A => ay s (fl_right' (P := [[a]]) s A))
 have a1 : ∀ s ∈ fl [[K], Bk N, Bk aa, [a], [b], d], s ∈ fl ([] ++ ([[a]] ++ [[K], Bk N, Bk aa, [b], d])) := Pk [1, 2, 3, 0, 4, 5] _ R
 have f := a6.res a1
 have h := h.step f
 have n := co.box n ((MS.outs (P := [[a]]) aq 3 R) _ mem1)
 have w := w.step f
 have x := x.step f
 have aN := aN.step f co (MS.outs (P := [[a]]) aq 2 R)
 have aw := aw.step f
 have av := av.step f co (MS.outs (P := [[a]]) aq 1 R)
 have aJ := co.box aJ ((MS.outs (P := [[a]]) aq 0 R) _ mem1)
 have e := e.ev co
 have a2 : ∀ t ∈ fl [[a]], a7.heap.size ≤ t := FR.mem (ls := [[a]]) (k.pk [3] _ R)
 have i := i.then co (fun t u => .inr (a2 t u))
 have l := eo
 refine Xu 1 [(63, Vp a 0)] (Xb (vs := [(0, Vi 1200), (1, Vi 1500), (2, Vi 3000)]) #[Vi 1200, Vi 1500, Vi 3000] 3 R R R (by kernel_rfl) (fun dA da eu d3 b8 fh => ?_))
 refine I1 ?_
 have ab := e
 have f := Stp.ext (ls := [[K], Bk N, Bk aa, [a], [b], d]) b8
 have l := b8.box l nn
 have h := h.step f
 have n := b8.box n nn
 have w := w.step f
 have x := x.step f
 have aN := aN.step f b8 nn2
 have aw := aw.step f
 have av := av.step f b8 nn2
 have aJ := b8.box aJ nn
 have e := e.ev b8
 have i := i.ext b8
 have eJ : SlR eI da (fl [[K], Bk N, Bk aa, [a], [b], d]) (Ad dA 0) 3 ([1200, 1500, 3000]) := ro_of_box ab eu d3 R R (cells_at (cs := [Vi 1200, Vi 1500, Vi 3000]) (CellsOf.cons (c := [Vi 1200]) R (CellsOf.cons (c := [Vi 1500]) R (CellsOf.cons (c := [Vi 3000]) R CellsOf.nil))))
 obtain ⟨bw, A, m⟩ := Bs m
 have v : MS da ([[a]] ++ [[K], Bk N, Bk aa, [b], d]) := e.pk [3, 0, 1, 2, 4, 5] _ R
 have a5 : ∀ s ∈ fl ([[a]] ++ [[K], Bk N, Bk aa, [b], d]), s ∈ fl [[K], Bk N, Bk aa, [a], [b], d] := Pk [3, 0, 1, 2, 4, 5] _ R
 have ak : ∀ s ∈ fl ([[a]] ++ [(fl [[K], Bk N, Bk aa, [b], d])]), s ∈ fl [[K], Bk N, Bk aa, [a], [b], d] := fun s A => a5 s (Fu s A)
 have Z := gen_Maker_Pick_w a bC bD bu.1 bv.2 (Ad dA 0) 3 ([1200, 1500, 3000]) _ da (fl [[K], Bk N, Bk aa, [b], d]) (v.fold (P := [[a]])) (h.sub ak) l (eJ.sub ak) A
 refine Xc 7 #[] #[] _ _ R R R R Z ?_
 rintro aA fs ⟨rfl, cp, ep⟩
 refine I1 ?_
 have aq : MS da ([[a]] ++ [[K], Bk N, Bk aa, [b], d]) := e.pk [3, 0, 1, 2, 4, 5] _ R
 have ay : ∀ s ∈ fl ([[a]] ++ [[K], Bk N, Bk aa, [b], d]), s ∈ fl [[K], Bk N, Bk aa, [a], [b], d] := Pk [3, 0, 1, 2, 4, 5] _ R
 have a6 := Stp.call (LS := [[K], Bk N, Bk aa, [a], [b], d]) (res := []) (par := [[a]]) (R := [[K], Bk N, Bk aa, [b], d]) cp (fun t u => ay t (fl_left' (P := [[a]]) t u)) (FR.nil _) (NP.init _ _) (fun s A => ay s (fl_right' (P := [[a]]) s A))
 have a1 : ∀ s ∈ fl [[K], Bk N, Bk aa, [a], [b], d], s ∈ fl ([] ++ ([[a]] ++ [[K], Bk N, Bk aa, [b], d])) := Pk [1, 2, 3, 0, 4, 5] _ R
 have f := a6.res a1
 have h := h.step f
 have n := cp.box n ((MS.outs (P := [[a]]) aq 3 R) _ mem1)
 have w := w.step f
 have x := x.step f
 have aN := aN.step f cp (MS.outs (P := [[a]]) aq 2 R)
 have aw := aw.step f
 have av := av.step f cp (MS.outs (P := [[a]]) aq 1 R)
 have aJ := cp.box aJ ((MS.outs (P := [[a]]) aq 0 R) _ mem1)
 have e := e.ev cp
 have a2 : ∀ t ∈ fl [[a]], a7.heap.size ≤ t := FR.mem (ls := [[a]]) (k.pk [3] _ R)
 have i := i.then cp (fun t u => .inr (a2 t u))
 have l := ep
 refine Xd (vs := [(0, Vi bv.1), (1, Vi bw.1)]) (.agg #[Vi bv.1, Vi bw.1]) R R R (fun _ _ => by kernel_rfl) ?_
 refine Xa (z := .agg #[Vi 0, Vi 0]) R R (by kernel_rfl) (fun X e0 dp a3 b9 fi => ?_)
 replace a3 : e0.heap[X]? = some (.cells #[Vi 0, Vi 0] 42 (0, 0)) := a3
 refine I1 ?_
 have f := Stp.box (ls := [[K], Bk N, Bk aa, [a], [b], d]) b9 dp
 have l := b9.box l nn
 have h := h.step f
 have n := b9.box n nn
 have w := w.step f
 have x := x.step f
 have aN := aN.step f b9 nn2
 have aw := aw.step f
 have av := av.step f b9 nn2
 have aJ := b9.box aJ nn
 have e := e.box b9 dp a3
 have k := k.box i.size dp
 have i := i.ext b9
 obtain ⟨dI, ey, d4, ca⟩ := Sa [Vi bv.1, Vi bw.1] tagg42 a3 R R R
 refine Ys dI _ _ R ey (I1 ?_)
 have f := Stp.ev' (ls := [[X], [K], Bk N, Bk aa, [a], [b], d]) ca (Mf 0 R)
 have l := ca.box l (e.apart 4 0 R R R _ mem1)
 have h := h.step f
 have n := ca.box n (e.apart 5 0 R R R _ mem1)
 have w := w.step f
 have x := x.step f
 have aN := aN.step f ca (e.apart 3 0 R R R)
 have aw := aw.step f
 have av := av.step f ca (e.apart 2 0 R R R)
 have aJ := ca.box aJ (e.apart 1 0 R R R _ mem1)
 have e := e.ev ca
 have i := i.then ca (fun t u => .inr (k.at 0 R t u))
 have a3 := d4
 refine Xk (Cs (Yl _ _ R (Ra 0 [Vi bg, Vl ba O bb, Vl be bd bf] tagg26 n nn R) ?_))
 obtain ⟨ci, A, m⟩ := Bs m
 have Z := bowl_Free_w bg ba bb O be bf bd _ dI (fl [[X], [K], Bk N, Bk aa, [a], [b], d]) (MS.fold (P := []) e) (w.sub fl1) (x.sub fl1) A
 refine Xc 10 #[] #[] _ _ R R R R Z ?_
 rintro aA e2 ⟨rfl, cb⟩
 refine I1 ?_
 have f := Stp.ext (ls := [[X], [K], Bk N, Bk aa, [a], [b], d]) cb
 have l := cb.box l nn
 have h := h.step f
 have aN := aN.step f cb nn2
 have aw := aw.step f
 have av := av.step f cb nn2
 have aJ := cb.box aJ nn
 have a3 := cb.box a3 nn
 have e := e.ev cb
 have i := i.ext cb
 refine Xu 2 [(69, Vi (i64.wrap (100 * ci))), (12, Vi (i64.wrap (100 * ci)))] (Xk (Cs (Xu 2 [(71, Vl aa ((b0.1 ++ ([(90, 9000, 0, 0, 30000000), (91, 400000, bE.1, 0, 0)] : List (Int × Int × Int × Int × Int)))) b4), (72, Vi (i64.wrap (100 * ci)))] ?_)))
 obtain ⟨aQ, A, m⟩ := Bs m
 have v := e.pk [0, 1, 2, 4, 5, 6] ([] ++ [[X], [K], Bk N, [a], [b], d]) R
 have ak := Fk (ls := [[X], [K], Bk N, Bk aa, [a], [b], d]) [0, 1, 2, 4, 5, 6] [[X], [K], Bk N, [a], [b], d] R
 have Z := bowl_Shorten_w aa b4 (b0.1 ++ ([(90, 9000, 0, 0, 30000000), (91, 400000, bE.1, 0, 0)] : List (Int × Int × Int × Int × Int))) (i64.wrap (100 * ci)) _ e2 (fl [[X], [K], Bk N, [a], [b], d]) (MS.fold (P := []) v) (aN.ro ak (Po e 3 R [0, 1, 2, 4, 5, 6] [[X], [K], Bk N, [a], [b], d] R R)) A
 refine Xc 11 #[] #[] _ _ R R R R Z ?_
 rintro aA e3 ⟨a9, bl, rfl, cc, ef, dk, bc⟩
 refine I1 ?_
 have f := Stp.call0 [[X], [K], Bk N, Bk aa, [a], [b], d] [Bk a9] [Bk a9, [X], [K], Bk N, Bk aa, [a], [b], d] cc dk R
 have l := cc.box l nn
 have h := h.step f
 have aN := aN.step f cc nn2
 have aw := aw.step f
 have av := av.step f cc nn2
 have aJ := cc.box aJ nn
 have a3 := cc.box a3 nn
 have e := MS.call0 [Bk a9] [Bk a9, [X], [K], Bk N, Bk aa, [a], [b], d] e cc ef dk R
 have al := FR.call0 [Bk a9, [X], [K], Bk N, Bk aa, [a], [b]] i.size dk k R
 have i := i.ext cc
 have k := al
 have bc := OwnS.plain (M' := fl [Bk a9, [X], [K], Bk N, Bk aa, [a], [b], d]) (Pp (Pi _) (Pp (Pi _) (Pp (Pi _) (Pp (Pi _) (Pi _))))) bc
 have v := e.pk [1, 2, 3, 4, 5, 6, 7] [[X], [K], Bk N, Bk aa, [a], [b], d] R
 have o := Pk (ls := [Bk a9, [X], [K], Bk N, Bk aa, [a], [b], d]) [1, 2, 3, 4, 5, 6, 7] [[X], [K], Bk N, Bk aa, [a], [b], d] R
 have h := h.sub o
 have aN := aN.sub o
 have aw := aw.sub o
 have av := av.sub o
 have bc := bc.ro o (pick_out e 0 R [some 1, some 2, some 3, some 4, some 5, some 6, some 7] [[X], [K], Bk N, Bk aa, [a], [b], d] R R)
 have e := v
 have k := k.pk [1, 2, 3, 4, 5, 6] [[X], [K], Bk N, Bk aa, [a], [b]] R
 refine Xu 5 [(70, .tuple #[Vl a9 aQ.1 bl, Vi aQ.2]), (74, Vl a9 aQ.1 bl), (75, Vi aQ.2), (13, Vl a9 aQ.1 bl), (14, Vi aQ.2)] (Xk (Cn [(3, Vp a 0), (9, Vl aa ((b0.1 ++ ([(90, 9000, 0, 0, 30000000), (91, 400000, bE.1, 0, 0)] : List (Int × Int × Int × Int × Int)))) b4), (10, Vp K 0), (11, Vp X 0), (12, Vi (i64.wrap (100 * ci))), (13, Vl a9 aQ.1 bl), (14, Vi aQ.2)] (fun aS => ?_)))
 refine Cq (Cs (Xu 2 [(76, Vi aQ.2), (77, .bool (aQ.2 != 0))] (Xk (Ci (aQ.2 != 0) R m (fun m => ?_) (fun m => ?_)))))
 · refine Cs (Xu 1 [(2, .bool false)] (Xk (Cr (Kr (Rr (Rv [.bool false] ⟨R, T0⟩ ?_))))))
   obtain rfl := Sj m
   exact ⟨R, i⟩
 refine Ck (Kt (Cs (Xu 1 [(79, Vl a9 aQ.1 bl)] (Yl _ _ R (Ra 0 [Vi ar.1.1.1, Vi ar.1.1.2, Vl bK ar.1.2.1 b6, Vi ar.1.2.2.1, Vl N ar.1.2.2.2 bY] tagg40 aJ nn R) (Yl _ _ R (Ra 0 [Vi bv.1, Vi bw.1] tagg42 a3 nn R) ?_)))))
 obtain ⟨bF, A, m⟩ := Bs m
 have v := e.pk [0, 1, 3, 4, 5, 6] ([] ++ [[X], [K], Bk aa, [a], [b], d]) R
 have ak := Fk (ls := [[X], [K], Bk N, Bk aa, [a], [b], d]) [0, 1, 3, 4, 5, 6] [[X], [K], Bk aa, [a], [b], d] R
 have Z := retarder_Choose_w a9 bl aQ.1 ar.1.1.1 ar.1.1.2 bK b6 ar.1.2.1 ar.1.2.2.1 N bY ar.1.2.2.2 bv.1 bw.1 _ e3 (fl [[X], [K], Bk aa, [a], [b], d]) (MS.fold (P := []) v) (bc.sub ak) (aw.sub ak) (av.ro ak (Po e 2 R [0, 1, 3, 4, 5, 6] [[X], [K], Bk aa, [a], [b], d] R R)) A
 refine Xc 12 #[] #[] _ _ R R R R Z ?_
 rintro aA e4 ⟨rfl, cd⟩
 refine I1 ?_
 have f := Stp.ext (ls := [[X], [K], Bk N, Bk aa, [a], [b], d]) cd
 have l := cd.box l nn
 have h := h.step f
 have aN := aN.step f cd nn2
 have aw := aw.step f
 have av := av.step f cd nn2
 have aJ := cd.box aJ nn
 have a3 := cd.box a3 nn
 have bc := bc.step f
 have e := e.ev cd
 have i := i.ext cd
 refine Xu 5 [(78, .tuple #[Vi bF.1, Vi bF.2]), (83, Vi bF.1), (84, Vi bF.2), (15, Vi bF.1), (14, Vi bF.2)] (Xk (Cq (Cs (Xu 2 [(85, Vi bF.2), (86, .bool (bF.2 != 0))] (Xk (Cn [(3, Vp a 0), (9, Vl aa ((b0.1 ++ ([(90, 9000, 0, 0, 30000000), (91, 400000, bE.1, 0, 0)] : List (Int × Int × Int × Int × Int)))) b4), (10, Vp K 0), (11, Vp X 0), (12, Vi (i64.wrap (100 * ci))), (13, Vl a9 aQ.1 bl), (15, Vi bF.1), (86, .bool (bF.2 != 0))] (fun aS => ?_)))))))
 refine Ci (bF.2 != 0) R m (fun m => ?_) (fun m => ?_)
 · refine Cs ?_
   obtain ⟨dL, A, m⟩ := Bs m
   have Z := top_runs_w _ e4 A
   refine Xc 13 #[] #[] _ _ R R R R Z ?_
   rintro aA ft ⟨rfl, d9⟩
   refine I1 ?_
   have i := i.ext d9
   refine Xu 1 [(2, .bool dL)] (Xk (Cr (Kr (Rr (Rv [.bool dL] ⟨R, T0⟩ ?_)))))
   obtain rfl := Sj m
   exact ⟨R, i⟩
 refine Ck (Kt (Cs (Yg K 0 4 (Vl N ar.1.2.2.2 bY) R R (Rf tfld40_3 _ _) tcell22 aJ nn R (Yg K 0 4 (Vl N ar.1.2.2.2 bY) R R (Rf tfld40_3 _ _) tcell22 aJ nn R (Xn (vs := [Vl N ar.1.2.2.2 bY]) (Vi ((ar.1.2.2.2).length : Int)) R R R (Rl tsl22 _ _ _ _ _) (Xu 2 [(93, Vi (i64.wrap (((ar.1.2.2.2).length : Int) - 1))), (94, Vi bF.1)] ?_))))))
 obtain ⟨fw, dE, m⟩ := Bs m
 obtain ⟨fa, e7, dY, ez, fb, ck⟩ := Oi (Mo := []) tsl22 av dE
 obtain rfl := ck
 refine Yi _ _ _ R ez ?_
 obtain ⟨dJ, eA, cq, ei⟩ := own_storeE dY (y := bF.1) 0 (Vi bF.1) tcell3 av (Mf 2 R) dE R R (fun _ _ _ ck => set_int ck)
 refine Ys dJ _ _ R eA (I1 ?_)
 have f := Stp.ev' (ls := [[X], [K], Bk N, Bk aa, [a], [b], d]) cq (Mf 2 R)
 have l := cq.box l (e.apart 4 2 R R R _ mem1)
 have h := h.step f
 have aN := aN.step f cq (e.apart 3 2 R R R)
 have aw := aw.step f
 have aJ := cq.box aJ (e.apart 1 2 R R R _ mem1)
 have a3 := cq.box a3 (e.apart 0 2 R R R _ mem1)
 have bc := bc.step f
 have e := e.ev cq
 have i := i.then cq (fun t u => .inr (k.at 2 R t u))
 have av := ei
 have dD : (Vl N ar.1.2.2.2 bY) = (Vl N ((ar.1.2.2.2.set (Int.toNat (i64.wrap (((ar.1.2.2.2).length : Int) - 1))) bF.1)) bY) := by simp only [Vl, List.length_set]
 rw [dD] at aJ
 try rw [dD]
 refine Xk (Cs (Xu 1 [(97, Vl aa ((b0.1 ++ ([(90, 9000, 0, 0, 30000000), (91, 400000, bE.1, 0, 0)] : List (Int × Int × Int × Int × Int)))) b4)] (Yl _ _ R (Ra 0 [Vi ar.1.1.1, Vi ar.1.1.2, Vl bK ar.1.2.1 b6, Vi ar.1.2.2.1, Vl N ((ar.1.2.2.2.set (Int.toNat (i64.wrap (((ar.1.2.2.2).length : Int) - 1))) bF.1)) bY] tagg40 aJ nn R) (Xu 1 [(99, Vi (i64.wrap (100 * ci)))] ?_))))
 obtain ⟨bx, A, m⟩ := Bs m
 have v := e.pk [0, 1, 4, 5, 6] ([] ++ [[X], [K], [a], [b], d]) R
 have ak := Fk (ls := [[X], [K], Bk N, Bk aa, [a], [b], d]) [0, 1, 4, 5, 6] [[X], [K], [a], [b], d] R
 have Z := bowl_Coupling_w aa b4 (b0.1 ++ ([(90, 9000, 0, 0, 30000000), (91, 400000, bE.1, 0, 0)] : List (Int × Int × Int × Int × Int))) ar.1.1.1 ar.1.1.2 bK b6 ar.1.2.1 ar.1.2.2.1 N bY (ar.1.2.2.2.set (Int.toNat (i64.wrap (((ar.1.2.2.2).length : Int) - 1))) bF.1) (i64.wrap (100 * ci)) _ dJ (fl [[X], [K], [a], [b], d]) (MS.fold (P := []) v) (aN.ro ak (Po e 3 R [0, 1, 4, 5, 6] [[X], [K], [a], [b], d] R R)) (aw.sub ak) (av.ro ak (Po e 2 R [0, 1, 4, 5, 6] [[X], [K], [a], [b], d] R R)) A
 refine Xc 14 #[] #[] _ _ R R R R Z ?_
 rintro aA fu ⟨rfl, cr⟩
 refine I1 ?_
 have f := Stp.ext (ls := [[X], [K], Bk N, Bk aa, [a], [b], d]) cr
 have l := cr.box l nn
 have h := h.step f
 have aw := aw.step f
 have av := av.step f cr nn2
 have aJ := cr.box aJ nn
 have a3 := cr.box a3 nn
 have bc := bc.step f
 have e := e.ev cr
 have i := i.ext cr
 refine Xu 3 [(96, .tuple #[.agg #[Vi bx.1.1, Vi bx.1.2], Vi bx.2]), (101, .agg #[Vi bx.1.1, Vi bx.1.2]), (102, Vi bx.2)] (Xa (z := .agg #[Vi 0, Vi 0]) R R (by kernel_rfl) (fun cD e5 dr cl ct fk => ?_))
 replace cl : e5.heap[cD]? = some (.cells #[Vi 0, Vi 0] 37 (0, 0)) := cl
 refine I1 ?_
 have f := Stp.box (ls := [[X], [K], Bk N, Bk aa, [a], [b], d]) ct dr
 have l := ct.box l nn
 have h := h.step f
 have aw := aw.step f
 have av := av.step f ct nn2
 have aJ := ct.box aJ nn
 have a3 := ct.box a3 nn
 have bc := bc.step f
 have e := e.box ct dr cl
 have k := k.box i.size dr
 have i := i.ext ct
 obtain ⟨e6, eB, d5, cu⟩ := Sa [Vi bx.1.1, Vi bx.1.2] tagg37 cl R R R
 refine Ys e6 _ _ R eB (I1 ?_)
 have f := Stp.ev' (ls := [[cD], [X], [K], Bk N, Bk aa, [a], [b], d]) cu (Mf 0 R)
 have l := cu.box l (e.apart 5 0 R R R _ mem1)
 have h := h.step f
 have aw := aw.step f
 have av := av.step f cu (e.apart 3 0 R R R)
 have aJ := cu.box aJ (e.apart 2 0 R R R _ mem1)
 have a3 := cu.box a3 (e.apart 1 0 R R R _ mem1)
 have bc := bc.step f
 have e := e.ev cu
 have i := i.then cu (fun t u => .inr (k.at 0 R t u))
 have cl := d5
 refine Xu 1 [(17, Vi bx.2)] (Xk (Cn [(3, Vp a 0), (10, Vp K 0), (11, Vp X 0), (13, Vl a9 aQ.1 bl), (16, Vp cD 0), (17, Vi bx.2)] (fun aS => ?_)))
 refine Cq (Cs (Xu 3 [(103, Vi bx.2), (104, .bool (bx.2 != 0)), (105, .bool (bx.2 != 0))] (Xw 105 (bx.2 != 0) R m (fun m => ?_) (fun m => ?_))))
 · refine Xu 13 [(106, U0), (107, U0), (108, U0), (109, U0), (110, U0), (111, .bool true), (112, .bool true), (113, U0), (114, U0), (115, U0), (116, U0), (117, U0), (118, .bool true)] (Xk (Cn [(3, Vp a 0), (10, Vp K 0), (11, Vp X 0), (13, Vl a9 aQ.1 bl), (118, .bool true)] (fun aS => ?_)))
   refine c_true R (Cs (Xu 1 [(2, .bool false)] (Xk (Cr (Kr (Rr (Rv [.bool false] ⟨R, T0⟩ ?_)))))))
   obtain rfl := Sj m
   exact ⟨R, i⟩
 refine Yg cD 0 0 (Vi bx.1.1) R R (Rf tfld37_0 _ _) tcell3 cl nn R (Yg X 0 0 (Vi bv.1) R R (Rf tfld42_0 _ _) tcell3 a3 nn R (Xu 3 [(110, Bd (bx.1.1 < bv.1)), (111, Bd (bx.1.1 < bv.1)), (112, Bd (bx.1.1 < bv.1))] (Xw 112 (decide (bx.1.1 < bv.1)) R m (fun m => ?_) (fun m => ?_))))
 · refine Xu 6 [(113, U0), (114, U0), (115, U0), (116, U0), (117, U0), (118, .bool true)] (Xk (Cn [(3, Vp a 0), (10, Vp K 0), (11, Vp X 0), (13, Vl a9 aQ.1 bl), (118, .bool true)] (fun aS => ?_)))
   refine c_true R (Cs (Xu 1 [(2, .bool false)] (Xk (Cr (Kr (Rr (Rv [.bool false] ⟨R, T0⟩ ?_)))))))
   obtain rfl := Sj m
   exact ⟨R, i⟩
 refine Yg cD 0 1 (Vi bx.1.2) R R (Rf tfld37_1 _ _) tcell3 cl nn R (Yg X 0 1 (Vi bw.1) R R (Rf tfld42_1 _ _) tcell3 a3 nn R (Xu 2 [(117, Bd (bx.1.2 > bw.1)), (118, Bd (bx.1.2 > bw.1))] (Xk (Cn [(3, Vp a 0), (10, Vp K 0), (11, Vp X 0), (13, Vl a9 aQ.1 bl), (118, Bd (bx.1.2 > bw.1))] (fun aS => ?_)))))
 refine Ci (decide (bx.1.2 > bw.1)) R m (fun m => ?_) (fun m => ?_)
 · refine Cs (Xu 1 [(2, .bool false)] (Xk (Cr (Kr (Rr (Rv [.bool false] ⟨R, T0⟩ ?_))))))
   obtain rfl := Sj m
   exact ⟨R, i⟩
 refine Ck (Kt (Cq (Cs (Xu 1 [(18, Vi 0)] (Xk (Cb ?_))))))
 have v := e.pk [5, 3, 2, 1, 7] [[a], Bk N, [K], [X], d] R
 have o := Pk (ls := [[cD], [X], [K], Bk N, Bk aa, [a], [b], d]) [5, 3, 2, 1, 7] [[a], Bk N, [K], [X], d] R
 have h := h.sub o
 have aw := aw.sub o
 have av := av.sub o
 have bc := bc.sub o
 have e := v
 have k := k.pk [5, 3, 2, 1] [[a], Bk N, [K], [X]] R
 obtain ⟨dX, di, cE⟩ := Bs m
 obtain ⟨cY, di⟩ := Lo di
 refine Cl (Lr hmx (σ := Nat × Int × Int) (fun b2 => match b2 with | (_, cN, bL) => [(3, Vp a 0), (10, Vp K 0), (11, Vp X 0), (13, Vl a9 aQ.1 bl), (18, Vi bL)]) (fun b2 bI => match b2 with | (dt, cN, bL) => loopN (top_TopCouples_L79 bu ar bv bw aQ bF) dt (cN, bL) = some dX ∧ Ev [] a7 bI ∧ MS bI [[a], Bk N, [K], [X], d] ∧ FR a7.heap.size [[a], Bk N, [K], [X]] ∧ SlR eI bI (fl [[a], Bk N, [K], [X], d]) bC bD bu.1 ∧ bI.heap[a]? = some (.cells #[Vl bC bu.1 bD, Vi cN] 61 (0, 0)) ∧ SlR (eProd eI eI) bI (fl [[a], Bk N, [K], [X], d]) bK b6 ar.1.2.1 ∧ OwnS eI 3 bI (fl [[a], Bk N, [K], [X], d]) N bY (ar.1.2.2.2.set (Int.toNat (i64.wrap (((ar.1.2.2.2).length : Int) - 1))) bF.1) ∧ bI.heap[K]? = some (.cells #[Vi ar.1.1.1, Vi ar.1.1.2, Vl bK ar.1.2.1 b6, Vi ar.1.2.2.1, Vl N ((ar.1.2.2.2.set (Int.toNat (i64.wrap (((ar.1.2.2.2).length : Int) - 1))) bF.1)) bY] 40 (0, 0)) ∧ bI.heap[X]? = some (.cells #[Vi bv.1, Vi bw.1] 42 (0, 0)) ∧ SlR (eProd eI (eIt4)) bI (fl [[a], Bk N, [K], [X], d]) a9 bl aQ.1) (fun b2 => b2.1) (cY, bw.2, 0) ⟨R, R, R, R, R, T0⟩ ⟨di, i, e, k, h, l, aw, av, aJ, a3, bc⟩ ?_)
 rintro ⟨cY, cN, bL⟩ aS dc ⟨b5, i, e, k, h, l, aw, av, aJ, a3, bc⟩
 rcases cY with _ | cY
 · exact (Lz b5).elim
 obtain ⟨fn, m, b5⟩ := Bs b5
 refine Cq (Cs (Xu 2 [(119, Vi bL), (120, Bd (bL < 3))] (Xk (Cn [(3, Vp a 0), (10, Vp K 0), (11, Vp X 0), (13, Vl a9 aQ.1 bl), (18, Vi bL), (120, Bd (bL < 3))] (fun aS => ?_)))))
 refine Ci (decide (bL < 3)) R m (fun m => ?_) (fun m => ?_)
 · refine Ck (Kt (Cq (Cb (Cs (Xu 2 [(124, Vl a9 aQ.1 bl), (125, Vp a 0)] (Yl _ _ R (Ra 0 [Vi ar.1.1.1, Vi ar.1.1.2, Vl bK ar.1.2.1 b6, Vi ar.1.2.2.1, Vl N ((ar.1.2.2.2.set (Int.toNat (i64.wrap (((ar.1.2.2.2).length : Int) - 1))) bF.1)) bY] tagg40 aJ nn R) ?_))))))
   obtain ⟨dd, A, m⟩ := Bs m
   have v : MS dc ([[a]] ++ [[K], [X], d]) := e.pk [0, 2, 3, 4] _ R
   have a5 : ∀ s ∈ fl ([[a]] ++ [[K], [X], d]), s ∈ fl [[a], Bk N, [K], [X], d] := Pk [0, 2, 3, 4] _ R
   have ak : ∀ s ∈ fl ([[a]] ++ [(fl [[K], [X], d])]), s ∈ fl [[a], Bk N, [K], [X], d] := fun s A => a5 s (Fu s A)
   have Z := gen_Maker_Run_w a bC bD bu.1 cN ar.1.1.1 ar.1.1.2 bK b6 ar.1.2.1 ar.1.2.2.1 N bY (ar.1.2.2.2.set (Int.toNat (i64.wrap (((ar.1.2.2.2).length : Int) - 1))) bF.1) _ dc (fl [[K], [X], d]) (v.fold (P := [[a]])) (h.sub ak) l (aw.sub ak) (av.ro ak (fun t u dg => pick_out e 1 R [some 0, some 2, some 3, some 4] ([[a]] ++ [[K], [X], d]) R R t u (Fu t dg))) A
   refine Xc 16 #[] #[] _ _ R R R R Z ?_
   rintro aA dK ⟨b3, dQ, bO, dS, rfl, cH, eq, eg, c7, cw, cx⟩
   refine I1 ?_
   have aq : MS dc ([[a]] ++ [Bk N, [K], [X], d]) := e.pk [0, 1, 2, 3, 4] _ R
   have ay : ∀ s ∈ fl ([[a]] ++ [Bk N, [K], [X], d]), s ∈ fl [[a], Bk N, [K], [X], d] := Pk [0, 1, 2, 3, 4] _ R
   have a6 := Stp.call (LS := [[a], Bk N, [K], [X], d]) (res := [Bk b3, Bk bO]) (par := [[a]]) (R := [Bk N, [K], [X], d]) cH (fun t u => ay t (fl_left' (P := [[a]]) t u)) c7 (NP.init _ _) (fun s A => ay s (fl_right' (P := [[a]]) s A))
   have a1 : ∀ s ∈ fl [Bk b3, Bk bO, [a], Bk N, [K], [X], d], s ∈ fl ([Bk b3, Bk bO] ++ ([[a]] ++ [Bk N, [K], [X], d])) := Pk [0, 1, 2, 3, 4, 5, 6] _ R
   have f := a6.res a1
   have h := h.step f
   have aJ := cH.box aJ ((MS.outs (P := [[a]]) aq 1 R) _ mem1)
   have aw := aw.step f
   have av := av.step f cH (MS.outs (P := [[a]]) aq 0 R)
   have a3 := cH.box a3 ((MS.outs (P := [[a]]) aq 2 R) _ mem1)
   have bc := bc.step f
   replace e : MS dK [Bk b3, Bk bO, [a], Bk N, [K], [X], d] := (MS.call (P := [[a]]) (R := [Bk N, [K], [X], d]) (res := [Bk b3, Bk bO]) (par := [[a]]) aq cH eg c7 (NP.init _ _)).pick [some 0, some 1, some 2, some 3, some 4, some 5, some 6] _ R
   have a2 : ∀ t ∈ fl [[a]], a7.heap.size ≤ t := FR.mem (ls := [[a]]) (k.pk [0] _ R)
   have al : FR a7.heap.size [Bk b3, Bk bO, [a], Bk N, [K], [X]] := (FR.cons (fun t u => Nat.le_trans i.size (c7.at 0 R t u)) (FR.cons (fun t u => Nat.le_trans i.size (c7.at 1 R t u)) (FR.cons (k.at 0 R) (FR.cons (k.at 1 R) (FR.cons (k.at 2 R) (FR.cons (k.at 3 R) (FR.nil _)))))))
   have i := i.then cH (fun t u => .inr (a2 t u))
   have k := al
   have l := eq
   have cw := OwnS.plain (M' := fl [Bk b3, Bk bO, [a], Bk N, [K], [X], d]) (Pi _) cw
   have cx := OwnS.plain (M' := fl [Bk b3, Bk bO, [a], Bk N, [K], [X], d]) (Pi _) cx
   have v := e.pk [1, 2, 3, 4, 5, 6] [Bk bO, [a], Bk N, [K], [X], d] R
   have o := Pk (ls := [Bk b3, Bk bO, [a], Bk N, [K], [X], d]) [1, 2, 3, 4, 5, 6] [Bk bO, [a], Bk N, [K], [X], d] R
   have h := h.sub o
   have aw := aw.sub o
   have av := av.sub o
   have bc := bc.sub o
   have cw := cw.ro o (pick_out e 0 R [some 1, some 2, some 3, some 4, some 5, some 6] [Bk bO, [a], Bk N, [K], [X], d] R R)
   have cx := cx.sub o
   have e := v
   have k := k.pk [1, 2, 3, 4, 5] [Bk bO, [a], Bk N, [K], [X]] R
   have v := e.pk [1, 2, 3, 4, 5] [[a], Bk N, [K], [X], d] R
   have o := Pk (ls := [Bk bO, [a], Bk N, [K], [X], d]) [1, 2, 3, 4, 5] [[a], Bk N, [K], [X], d] R
   have h := h.sub o
   have aw := aw.sub o
   have av := av.sub o
   have bc := bc.sub o
   have cw := cw.sub o
   have cx := cx.ro o (pick_out e 0 R [some 1, some 2, some 3, some 4, some 5] [[a], Bk N, [K], [X], d] R R)
   have e := v
   have k := k.pk [1, 2, 3, 4] [[a], Bk N, [K], [X]] R
   obtain ⟨bq, A, m⟩ := Bs m
   have Z := runoff_Point_w a9 bl aQ.1 dd.1.1 b3 dQ dd.1.2.1 bO dS dd.1.2.2 _ dK (fl [[a], Bk N, [K], [X], d]) (MS.fold (P := []) e) (bc.sub fl1) (cw.sub fl1) (cx.sub fl1) A
   refine Xc 15 #[] #[] _ _ R R R R Z ?_
   rintro aA cC ⟨bX, cj, rfl, cv, eh, dl, ce⟩
   refine I1 ?_
   have f := Stp.call0 [[a], Bk N, [K], [X], d] [Bk bX] [Bk bX, [a], Bk N, [K], [X], d] cv dl R
   have l := cv.box l nn
   have h := h.step f
   have aJ := cv.box aJ nn
   have aw := aw.step f
   have av := av.step f cv nn2
   have a3 := cv.box a3 nn
   have bc := bc.step f
   have e := MS.call0 [Bk bX] [Bk bX, [a], Bk N, [K], [X], d] e cv eh dl R
   have al := FR.call0 [Bk bX, [a], Bk N, [K], [X]] i.size dl k R
   have i := i.ext cv
   have k := al
   have ce := OwnS.plain (M' := fl [Bk bX, [a], Bk N, [K], [X], d]) (Pp (Pi _) (Pi _)) ce
   have v := e.pk [1, 2, 3, 4, 5] [[a], Bk N, [K], [X], d] R
   have o := Pk (ls := [Bk bX, [a], Bk N, [K], [X], d]) [1, 2, 3, 4, 5] [[a], Bk N, [K], [X], d] R
   have h := h.sub o
   have aw := aw.sub o
   have av := av.sub o
   have bc := bc.sub o
   have ce := ce.ro o (pick_out e 0 R [some 1, some 2, some 3, some 4, some 5] [[a], Bk N, [K], [X], d] R R)
   have e := v
   have k := k.pk [1, 2, 3, 4] [[a], Bk N, [K], [X]] R
   refine Xu 7 [(123, .tuple #[Vl bX bq.1 cj, Vi bq.2.1, Vi bq.2.2]), (129, Vl bX bq.1 cj), (130, Vi bq.2.1), (131, Vi bq.2.2), (19, Vl bX bq.1 cj), (20, Vi bq.2.1), (21, Vi bq.2.2)] (Xk (Cq (Cd [] [(0, false), (1, false), (2, false), (3, false), (4, false), (5, false), (6, false), (7, false), (8, false), (9, false), (10, false), (11, false), (12, false), (13, false), (14, false), (15, false), (16, false), (17, false), (18, false), (19, false), (20, false), (21, false), (22, false), (23, false), (24, false), (25, false), (26, false), (27, false), (28, false), (29, false), (30, false), (31, false), (32, false), (33, false), (34, false), (35, false), (36, false), (37, false), (38, false), (39, false), (40, false), (41, false)] _ (by kernel_rfl) R ?_)))
   have f := Stp.ext (ls := [[a], Bk N, [K], [X], d]) (Ev.drew cC)
   have l := (Ev.drew cC).box l nn
   have h := h.step f
   have aJ := (Ev.drew cC).box aJ nn
   have aw := aw.step f
   have av := av.step f (Ev.drew cC) nn2
   have a3 := (Ev.drew cC).box a3 nn
   have bc := bc.step f
   have ce := ce.step f
   have e := e.ev (Ev.drew cC)
   have i := i.ext (Ev.drew cC)
   refine Xu 3 [(132, Vi bq.2.2), (133, .bool (bq.2.2 != 0)), (134, .bool (bq.2.2 != 0))] (Xw 134 (bq.2.2 != 0) R m (fun m => ?_) (fun m => ?_))
   · refine Xu 39 [(135, U0), (136, U0), (137, .bool true), (138, .bool true), (139, U0), (140, U0), (141, U0), (142, U0), (143, U0), (144, U0), (145, .bool true), (146, .bool true), (147, U0), (148, U0), (149, U0), (150, U0), (151, U0), (152, U0), (153, U0), (154, U0), (155, U0), (156, U0), (157, U0), (158, U0), (159, .bool true), (160, .bool true), (161, U0), (162, U0), (163, U0), (164, U0), (165, U0), (166, U0), (167, U0), (168, U0), (169, U0), (170, U0), (171, U0), (172, U0), (173, .bool true)] (Xk (Cn [(3, Vp a 0), (10, Vp K 0), (11, Vp X 0), (13, Vl a9 aQ.1 bl), (18, Vi bL), (173, .bool true)] (fun aS => ?_)))
     refine c_true R (Cs (Xu 1 [(2, .bool false)] (Xk (Cr (Kb (Kr ?_))))))
     obtain rfl := Sj m
     have am := Sj b5
     subst am
     have m := cE
     refine Kr (Kb (Kr (Rr (Rv [.bool false] ⟨R, T0⟩ ?_))))
     obtain rfl := Sj m
     exact ⟨R, i⟩
   refine Xu 4 [(135, Vi bq.2.1), (136, .bool (bq.2.1 != (-1))), (137, .bool (bq.2.1 != (-1))), (138, .bool (bq.2.1 != (-1)))] (Xw 138 (bq.2.1 != (-1)) R m (fun m => ?_) (fun m => ?_))
   · refine Xu 35 [(139, U0), (140, U0), (141, U0), (142, U0), (143, U0), (144, U0), (145, .bool true), (146, .bool true), (147, U0), (148, U0), (149, U0), (150, U0), (151, U0), (152, U0), (153, U0), (154, U0), (155, U0), (156, U0), (157, U0), (158, U0), (159, .bool true), (160, .bool true), (161, U0), (162, U0), (163, U0), (164, U0), (165, U0), (166, U0), (167, U0), (168, U0), (169, U0), (170, U0), (171, U0), (172, U0), (173, .bool true)] (Xk (Cn [(3, Vp a 0), (10, Vp K 0), (11, Vp X 0), (13, Vl a9 aQ.1 bl), (18, Vi bL), (173, .bool true)] (fun aS => ?_)))
     refine c_true R (Cs (Xu 1 [(2, .bool false)] (Xk (Cr (Kb (Kr ?_))))))
     obtain rfl := Sj m
     have am := Sj b5
     subst am
     have m := cE
     refine Kr (Kb (Kr (Rr (Rv [.bool false] ⟨R, T0⟩ ?_))))
     obtain rfl := Sj m
     exact ⟨R, i⟩
   refine Xu 1 [(139, Vl bX bq.1 cj)] (Xn (vs := [Vl bX bq.1 cj]) (Vi ((bq.1).length : Int)) R R R (Rl tsl51 _ _ _ _ _) (Xu 1 [(141, Vl a9 aQ.1 bl)] (Xn (vs := [Vl a9 aQ.1 bl]) (Vi ((aQ.1).length : Int)) R R R (Rl tsl32 _ _ _ _ _) (Xu 4 [(143, Vi (i64.wrap (((aQ.1).length : Int) + 1))), (144, .bool (((bq.1).length : Int) != (i64.wrap (((aQ.1).length : Int) + 1)))), (145, .bool (((bq.1).length : Int) != (i64.wrap (((aQ.1).length : Int) + 1)))), (146, .bool (((bq.1).length : Int) != (i64.wrap (((aQ.1).length : Int) + 1))))] (Xw 146 (((bq.1).length : Int) != (i64.wrap (((aQ.1).length : Int) + 1))) R m (fun m => ?_) (fun m => ?_))))))
   · refine Xu 27 [(147, U0), (148, U0), (149, U0), (150, U0), (151, U0), (152, U0), (153, U0), (154, U0), (155, U0), (156, U0), (157, U0), (158, U0), (159, .bool true), (160, .bool true), (161, U0), (162, U0), (163, U0), (164, U0), (165, U0), (166, U0), (167, U0), (168, U0), (169, U0), (170, U0), (171, U0), (172, U0), (173, .bool true)] (Xk (Cn [(3, Vp a 0), (10, Vp K 0), (11, Vp X 0), (13, Vl a9 aQ.1 bl), (18, Vi bL), (173, .bool true)] (fun aS => ?_)))
     refine c_true R (Cs (Xu 1 [(2, .bool false)] (Xk (Cr (Kb (Kr ?_))))))
     obtain rfl := Sj m
     have am := Sj b5
     subst am
     have m := cE
     refine Kr (Kb (Kr (Rr (Rv [.bool false] ⟨R, T0⟩ ?_))))
     obtain rfl := Sj m
     exact ⟨R, i⟩
   refine Xu 2 [(147, Vl bX bq.1 cj), (148, Vl a9 aQ.1 bl)] (Xn (vs := [Vl a9 aQ.1 bl]) (Vi ((aQ.1).length : Int)) R R R (Rl tsl32 _ _ _ _ _) ?_)
   obtain ⟨c0, eO, m⟩ := Bs m
   obtain ⟨de, e8, eD, d7, ck⟩ := Ri (Mo := []) tsl51 ce eO
   obtain ⟨_, _, rfl, rfl, rfl⟩ := ck
   refine Yi _ _ _ R eD (Yf (.pointer (some de)) (.pointer (some (Addr.add de 1))) R (Rf tfld58_1 _ _) (Yl (.pointer (some (Addr.add de 1))) (Vi c0.2) R (reads_cell tcell3 d7 (fun _ m => by cases m) 1 _ R) ?_))
   refine Yg X 0 0 (Vi bv.1) R R (Rf tfld42_0 _ _) tcell3 a3 nn R (Yg X 0 0 (Vi bv.1) R R (Rf tfld42_0 _ _) tcell3 a3 nn R (Xu 4 [(157, Vi (i64.wrap (bv.1 * bv.1))), (158, Bd (c0.2 < (i64.wrap (bv.1 * bv.1)))), (159, Bd (c0.2 < (i64.wrap (bv.1 * bv.1)))), (160, Bd (c0.2 < (i64.wrap (bv.1 * bv.1))))] (Xw 160 (decide (c0.2 < (i64.wrap (bv.1 * bv.1)))) R m (fun m => ?_) (fun m => ?_))))
   · refine Xu 13 [(161, U0), (162, U0), (163, U0), (164, U0), (165, U0), (166, U0), (167, U0), (168, U0), (169, U0), (170, U0), (171, U0), (172, U0), (173, .bool true)] (Xk (Cn [(3, Vp a 0), (10, Vp K 0), (11, Vp X 0), (13, Vl a9 aQ.1 bl), (18, Vi bL), (173, .bool true)] (fun aS => ?_)))
     refine c_true R (Cs (Xu 1 [(2, .bool false)] (Xk (Cr (Kb (Kr ?_))))))
     obtain rfl := Sj m
     have am := Sj b5
     subst am
     have m := cE
     refine Kr (Kb (Kr (Rr (Rv [.bool false] ⟨R, T0⟩ ?_))))
     obtain rfl := Sj m
     exact ⟨R, i⟩
   refine Xu 2 [(161, Vl bX bq.1 cj), (162, Vl a9 aQ.1 bl)] (Xn (vs := [Vl a9 aQ.1 bl]) (Vi ((aQ.1).length : Int)) R R R (Rl tsl32 _ _ _ _ _) ?_)
   obtain ⟨c1, eQ, m⟩ := Bs m
   obtain ⟨df, e9, eE, d8, ck⟩ := Ri (Mo := []) tsl51 ce eQ
   obtain ⟨_, _, rfl, rfl, rfl⟩ := ck
   refine Yi _ _ _ R eE (Yf (.pointer (some df)) (.pointer (some (Addr.add df 1))) R (Rf tfld58_1 _ _) (Yl (.pointer (some (Addr.add df 1))) (Vi c1.2) R (reads_cell tcell3 d8 (fun _ m => by cases m) 1 _ R) ?_))
   refine Yg X 0 1 (Vi bw.1) R R (Rf tfld42_1 _ _) tcell3 a3 nn R (Yg X 0 1 (Vi bw.1) R R (Rf tfld42_1 _ _) tcell3 a3 nn R (Xu 3 [(171, Vi (i64.wrap (bw.1 * bw.1))), (172, Bd (c1.2 > (i64.wrap (bw.1 * bw.1)))), (173, Bd (c1.2 > (i64.wrap (bw.1 * bw.1))))] (Xk (Cn [(3, Vp a 0), (10, Vp K 0), (11, Vp X 0), (13, Vl a9 aQ.1 bl), (18, Vi bL), (173, Bd (c1.2 > (i64.wrap (bw.1 * bw.1))))] (fun aS => ?_)))))
   refine Ci (decide (c1.2 > (i64.wrap (bw.1 * bw.1)))) R m (fun m => ?_) (fun m => ?_)
   · refine Cs (Xu 1 [(2, .bool false)] (Xk (Cr (Kb (Kr ?_)))))
     obtain rfl := Sj m
     have am := Sj b5
     subst am
     have m := cE
     refine Kr (Kb (Kr (Rr (Rv [.bool false] ⟨R, T0⟩ ?_))))
     obtain rfl := Sj m
     exact ⟨R, i⟩
   refine Ck (Kl (Kt (Cp (Xu 3 [(121, Vi bL), (122, Vi (i64.wrap (bL + 1))), (18, Vi (i64.wrap (bL + 1)))] (Xe R ?_)))))
   obtain rfl := Sj m
   exact Kt ⟨(cY, dd.2, i64.wrap (bL + 1)), ⟨R, R, R, R, R, T0⟩, ⟨b5, i, e, k, h, l, aw, av, aJ, a3, bc⟩, Ns _⟩
 refine Ce (Ke ?_)
 obtain rfl := Sj m
 have am := Sj b5
 subst am
 have m := cE
 refine Ke (Ki (Kt (c_norm [] T0 (fun aS => ?_))))
 refine Cs ?_
 obtain ⟨dN, A, m⟩ := Bs m
 have Z := top_runs_w _ dc A
 refine Xc 13 #[] #[] _ _ R R R R Z ?_
 rintro aA fv ⟨rfl, ea⟩
 refine I1 ?_
 have i := i.ext ea
 refine Xu 1 [(2, .bool dN)] (Xk (Cr (Rr (Rv [.bool dN] ⟨R, T0⟩ ?_))))
 obtain rfl := Sj m
 exact ⟨R, i⟩
end Go.Proofs.YtfhkfjankgikcaaGreat
