
/- Walks, printed by program: each function returns what the partial function of the same name returns. Conditions: those of each theorem. -/
import Derived.Test.YtfhkfjankgikcaaGreatGT
import Derived.Test.YtfhkfjankgikcaaGreatGr20
set_option linter.unusedVariables false
set_option linter.unusedSimpArgs false
set_option maxRecDepth 4000
namespace Go.Proofs.YtfhkfjankgikcaaGreat
open Go Go.V Go.Proofs Go.IntKind
def gen_New (a : List Int) : Option ((List Int) × Int) :=
some (a, 0)
theorem gen_New_w (b d e j f a) (n : MS f [a]) (p : SlR eI f (fl [a]) b d e) (s : gen_New e = some j) : CallVC Tryz.prog 4 [Vl b e d] f fun x k => ∃ g q r, x = .pointer (some ⟨g, 0, none⟩) ∧ Ev [] f k ∧ MS k [[g], a] ∧ FR f.heap.size [[g]] ∧ k.heap[g]? = some (.cells #[Vl q j.1 r, Vi j.2] 61 (0, 0)) ∧ SlR eI k (fl [[g], a]) q r j.1 := by
 refine Cv hmx Tryz.func4 (by kernel_rfl) R (rs := [.tmp 2]) R (by kernel_rfl) (args := [Vl b e d]) R ?_
 have i : Ev [] f f := Ev.refl _ _
 have m : FR f.heap.size [] := FR.nil _
 refine Cs (Xu 1 [(2, .pointer none)] (Xk (Cs (Xu 1 [(3, Vl b e d)] (Xd (vs := [(0, Vl b e d)]) (.agg #[Vl b e d, Vi 0]) R R R (fun _ _ => by kernel_rfl) ?_)))))
 refine Yb _ R (fun c y o h l z => ?_)
 replace h : y.heap[c]? = some (.cells #[Vl b e d, Vi 0] 61 (0, 0)) := h
 refine I1 ?_
 have v := Stp.box (ls := [a]) l o
 have p := p.step v
 have n := n.box l o h
 have m := m.box i.size o
 have i := i.ext l
 refine Xu 1 [(2, Vp c 0)] (Xk (Cr (Rr (Rv [Vp c 0] ⟨R, T0⟩ ?_))))
 obtain rfl := Sj s
 have u := n.pk [0, 1] [[c], a] R
 have w := Pk (ls := [[c], a]) [0, 1] [[c], a] R
 have t := m.pk [0] [[c]] R
 exact ⟨c, b, d, R, i, u, t, h, p.sub w⟩
def gen_Maker_Next_J3 (c : Int) (a : Int) (b : Int) : Option (Int × Int) :=
(if a ≠ 0 then
(if (decide ((Int.tmod b a) < 0)) = true then
some (i64.wrap ((Int.tmod b a) + a), i64.wrap (c + 1))
else
some (Int.tmod b a, i64.wrap (c + 1)))
else none)
def gen_Maker_Next (a : List Int) (b : Int) (c : Int) : Option (Int × Int) :=
(if (decide (((a).length : Int) > 0)) = true then
(if ((a).length : Int) ≠ 0 then
((idx a (Int.tmod b ((a).length : Int))).bind fun d =>
(if ((a).length : Int) ≠ 0 then
gen_Maker_Next_J3 b c (i64.wrap (d + (i64.wrap ((i64.wrap (Int.tdiv b ((a).length : Int))) * 7919))))
else none))
else none)
else
gen_Maker_Next_J3 b c 0)
theorem gen_Maker_Next_w (a i j c f b p h n) (o : MS h [[a], n]) (m : SlR eI h (fl [[a], n]) i j c) (g : h.heap[a]? = some (.cells #[Vl i c j, Vi f] 61 (0, 0))) (d : gen_Maker_Next c f b = some p) : CallVC Tryz.prog 5 [Vp a 0, Vi b] h fun D l => D = Vi p.1 ∧ Ev [a] h l ∧ l.heap[a]? = some (.cells #[Vl i c j, Vi p.2] 61 (0, 0)) := by
 refine Cv hmx Tryz.func5 (by kernel_rfl) R (rs := [.tmp 4]) R (by kernel_rfl) (args := [Vp a 0, Vi b]) R ?_
 have k : Ev [a] h h := Ev.refl _ _
 have r : FR h.heap.size [] := FR.nil _
 refine Cs (Xu 1 [(4, Vi 0)] (Xk (Cs (Xu 1 [(5, Vi 0)] (Xk (c_join (σ := Int) (fun s => match s with | e => [(0, Vp a 0), (1, Vi b), (5, Vi e)]) (fun s l => match s with | e => gen_Maker_Next_J3 f b e = some p ∧ Ev [a] h l ∧ MS l [[a], n] ∧ FR h.heap.size [] ∧ SlR eI l (fl [[a], n]) i j c ∧ l.heap[a]? = some (.cells #[Vl i c j, Vi f] 61 (0, 0))) ?_ ?_))))))
 · refine Cs (Xu 2 [(6, Vp a 0), (7, Vp a 0)] (Yg a 0 0 (Vl i c j) R R (Rf tfld61_0 _ _) tcell22 g nn R (Xn (vs := [Vl i c j]) (Vi ((c).length : Int)) R R R (Rl tsl22 _ _ _ _ _) (Xu 1 [(11, Bd (((c).length : Int) > 0))] (Xk (Ci (decide (((c).length : Int) > 0)) R d (fun d => ?_) (fun d => ?_)))))))
   · refine Cd [] [(0, false), (1, false), (2, false), (3, false), (4, false), (5, false), (6, false), (7, false), (8, false), (9, false), (10, false), (11, false), (12, false), (13, false), (14, false), (15, false), (16, false), (17, false), (18, false), (19, false), (20, false), (21, false), (22, false), (23, false), (24, false), (25, false), (26, false), (27, false), (28, false)] _ (by kernel_rfl) R ?_
     have B := Stp.ext (ls := [[a], n]) (Ev.drew h)
     have m := m.step B
     have g := (Ev.drew h).box g nn
     have o := o.ev (Ev.drew h)
     have k := k.ext (Ev.drew h)
     refine Xu 2 [(12, Vp a 0), (13, Vp a 0)] (Yg a 0 0 (Vl i c j) R R (Rf tfld61_0 _ _) tcell22 g nn R (Xu 2 [(16, Vp a 0), (17, Vp a 0)] (Yg a 0 1 (Vi f) R R (Rf tfld61_1 _ _) tcell3 g nn R (Xu 2 [(20, Vp a 0), (21, Vp a 0)] (Yg a 0 0 (Vl i c j) R R (Rf tfld61_0 _ _) tcell22 g nn R (Xn (vs := [Vl i c j]) (Vi ((c).length : Int)) R R R (Rl tsl22 _ _ _ _ _) ?_))))))
     refine x_binop (Vi (Int.tmod f ((c).length : Int))) (Vi f) (Vi ((c).length : Int)) R R R R (vb_rem (Gl d)) ?_
     have d := Gr d
     obtain ⟨q, C, d⟩ := Bs d
     obtain ⟨F, H, z, x, u⟩ := Ri (Mo := []) tsl22 m C
     obtain rfl := u
     refine Yi _ _ _ R z (Yl _ (Vi q) R (Rc tcell3 x (fun _ d => by cases d)) ?_)
     refine Xu 2 [(28, Vp a 0), (29, Vp a 0)] (Yg a 0 1 (Vi f) R R (Rf tfld61_1 _ _) tcell3 g nn R (Xu 2 [(32, Vp a 0), (33, Vp a 0)] (Yg a 0 0 (Vl i c j) R R (Rf tfld61_0 _ _) tcell22 g nn R (Xn (vs := [Vl i c j]) (Vi ((c).length : Int)) R R R (Rl tsl22 _ _ _ _ _) (x_binop (Vi (i64.wrap (Int.tdiv f ((c).length : Int)))) (Vi f) (Vi ((c).length : Int)) R R R R (vb_quo (Gl d)) ?_)))))
     have d := Gr d
     refine Xu 3 [(38, Vi (i64.wrap ((i64.wrap (Int.tdiv f ((c).length : Int))) * 7919))), (39, Vi (i64.wrap (q + (i64.wrap ((i64.wrap (Int.tdiv f ((c).length : Int))) * 7919))))), (5, Vi (i64.wrap (q + (i64.wrap ((i64.wrap (Int.tdiv f ((c).length : Int))) * 7919)))))] (Xe R ?_)
     exact Kt ⟨i64.wrap (q + (i64.wrap ((i64.wrap (Int.tdiv f ((c).length : Int))) * 7919))), ⟨R, R, R, T0⟩, d, k, o, r, m, g⟩
   refine Ck ?_
   exact Kt ⟨0, ⟨R, R, R, T0⟩, d, k, o, r, m, g⟩
 rintro e t I ⟨d, k, o, r, m, g⟩
 refine Cs (Xu 2 [(40, Vp a 0), (41, Vp a 0)] (Yg a 0 1 (Vi f) R R (Rf tfld61_1 _ _) tcell3 g nn R (Xu 2 [(44, Vi (i64.wrap (f + 1))), (45, Vp a 0)] (Yf (Vp a 0) (Vp a 1) R (Rf tfld61_1 _ _) ?_))))
 obtain ⟨E, A, w, y⟩ := store_box 1 (Vi (i64.wrap (f + 1))) #[Vl i c j, Vi (i64.wrap (f + 1))] tcell3 g R R R
 refine Ys E _ _ R A (I1 ?_)
 have k := k.then y (fun G v => .inl (by simpa using v))
 have g := w
 refine Xk (Cn [(1, Vi b), (5, Vi e)] (fun t => ?_))
 refine Cs (Xu 2 [(47, Vi e), (48, Vi b)] (x_binop (Vi (Int.tmod e b)) (Vi e) (Vi b) R R R R (vb_rem (Gl d)) ?_))
 have d := Gr d
 refine Xu 1 [(5, Vi (Int.tmod e b))] (Xk (Cq (Cs (Xu 2 [(50, Vi (Int.tmod e b)), (51, Bd ((Int.tmod e b) < 0))] (Xk (Ci (decide ((Int.tmod e b) < 0)) R d (fun d => ?_) (fun d => ?_)))))))
 · refine Cp (Xu 4 [(52, Vi (Int.tmod e b)), (53, Vi b), (54, Vi (i64.wrap ((Int.tmod e b) + b))), (5, Vi (i64.wrap ((Int.tmod e b) + b)))] (Xk (Cs (Xu 2 [(55, Vi (i64.wrap ((Int.tmod e b) + b))), (4, Vi (i64.wrap ((Int.tmod e b) + b)))] (Xk (Cr (Rr (Rv [Vi (i64.wrap ((Int.tmod e b) + b))] ⟨R, T0⟩ ?_))))))))
   obtain rfl := Sj d
   exact ⟨R, k, g⟩
 refine Ck (Kt (Cs (Xu 2 [(55, Vi (Int.tmod e b)), (4, Vi (Int.tmod e b))] (Xk (Cr (Rr (Rv [Vi (Int.tmod e b)] ⟨R, T0⟩ ?_)))))))
 obtain rfl := Sj d
 exact ⟨R, k, g⟩
def gen_Maker_Pick (c : List Int) (d : Int) (a : List Int) : Option (Int × Int) :=
((gen_Maker_Next c d ((a).length : Int)).bind fun b =>
((idx a b.1).bind fun e =>
some (e, b.2)))
theorem gen_Maker_Pick_w (a k l j r g h e s d b) (B : MS d [[a], b]) (F : SlR eI d (fl [[a], b]) k l j) (o : d.heap[a]? = some (.cells #[Vl k j l, Vi r] 61 (0, 0))) (q : SlR eI d (fl [[a], b]) g h e) (f : gen_Maker_Pick j r e = some s) : CallVC Tryz.prog 7 [Vp a 0, Vl g e h] d fun w x => w = Vi s.1 ∧ Ev [a] d x ∧ x.heap[a]? = some (.cells #[Vl k j l, Vi s.2] 61 (0, 0)) := by
 refine Cv hmx Tryz.func7 (by kernel_rfl) R (rs := [.tmp 4]) R (by kernel_rfl) (args := [Vp a 0, Vl g e h]) R ?_
 have p : Ev [a] d d := Ev.refl _ _
 refine Cs (Xu 1 [(4, Vi 0)] (Xk (Cs (Xu 3 [(5, Vl g e h), (6, Vp a 0), (7, Vl g e h)] (Xn (vs := [Vl g e h]) (Vi ((e).length : Int)) R R R (Rl tsl22 _ _ _ _ _) ?_)))))
 obtain ⟨S, i, f⟩ := Bs f
 have D : MS d ([[a]] ++ [b]) := B.pk [0, 1] _ R
 have H : ∀ c ∈ fl ([[a]] ++ [b]), c ∈ fl [[a], b] := Pk [0, 1] _ R
 have G : ∀ c ∈ fl ([[a]] ++ [(fl [b])]), c ∈ fl [[a], b] := fun c i => H c (Fu c i)
 have A := gen_Maker_Next_w a k l j r ((e).length : Int) _ d (fl [b]) (D.fold (P := [[a]])) (F.sub G) o i
 refine Xc 5 #[] #[] _ _ R R R R A ?_
 rintro w Q ⟨rfl, u, C⟩
 refine I1 ?_
 have v : ∀ c ∈ fl ([[a]] ++ [b]), c ∈ fl [[a], b] := Pk [0, 1] _ R
 have K := Stp.call (LS := [[a], b]) (res := []) (par := [[a]]) (R := [b]) u (fun m n => v m (fl_left' (P := [[a]]) m n)) (FR.nil _) (NP.init _ _) (fun c i => v c (fl_right' (P := [[a]]) c i))
 have I : ∀ c ∈ fl [[a], b], c ∈ fl ([] ++ ([[a]] ++ [b])) := Pk [0, 1] _ R
 have J := K.res I
 have q := q.step J
 have p := p.then u (fun m n => .inl (by simpa using n))
 have o := C
 obtain ⟨t, L, f⟩ := Bs f
 obtain ⟨N, O, E, z, y⟩ := Ri (Mo := []) tsl22 q L
 obtain rfl := y
 refine Yi _ _ _ R E (Yl _ (Vi t) R (Rc tcell3 z (fun _ f => by cases f)) ?_)
 refine Xu 1 [(4, Vi t)] (Xk (Cr (Rr (Rv [Vi t] ⟨R, T0⟩ ?_))))
 obtain rfl := Sj f
 exact ⟨R, p, o⟩
def gen_Maker_Pieces_L5 (b : List Int) (j : Int × (List (Int × Int × Int × Int × Int)) × Int) : Option (Step (Int × (List (Int × Int × Int × Int × Int)) × Int) (Int × (List (Int × Int × Int × Int × Int)))) :=
match j with
| (i, a, f) =>
(if (decide (f > 0)) = true then
((gen_Maker_Pick b i ([1, 1000, 5000, 9000, 30000, 100000])).bind fun c =>
((gen_Maker_Pick b c.2 ([0, 100, (-150), 400, 1000, 3500, 5000])).bind fun d =>
((gen_Maker_Pick b d.2 ([0, 0, 20, 150])).bind fun e =>
((gen_Maker_Next b e.2 4).bind fun g =>
(if (g.1 == 0) = true then
((gen_Maker_Pick b g.2 ([1, 500000, 2000000, 8000000, 30000000])).bind fun h =>
(if a.length + ([(i64.wrap (((a).length : Int) + 1), c.1, d.1, e.1, h.1)] : List (Int × Int × Int × Int × Int)).length ≤ 4294967296 then
some (.next (h.2, (a ++ ([(i64.wrap (((a).length : Int) + 1), c.1, d.1, e.1, h.1)] : List (Int × Int × Int × Int × Int))), i64.wrap (f - 1)))
else none))
else
(if a.length + ([(i64.wrap (((a).length : Int) + 1), c.1, d.1, e.1, 0)] : List (Int × Int × Int × Int × Int)).length ≤ 4294967296 then
some (.next (g.2, (a ++ ([(i64.wrap (((a).length : Int) + 1), c.1, d.1, e.1, 0)] : List (Int × Int × Int × Int × Int))), i64.wrap (f - 1)))
else none))))))
else
some (.done (i, a)))
def gen_Maker_Pieces (a : List Int) (f : Int) (g : Int) : Option ((List (Int × Int × Int × Int × Int)) × Int) :=
((gen_Maker_Next a f g).bind fun b =>
((loop (gen_Maker_Pieces_L5 a) (b.2, ([] : List (Int × Int × Int × Int × Int)), i64.wrap (1 + b.1))).bind fun c => match c with
| (e, d) => some (d, e)))
theorem gen_Maker_Pieces_w (a G H F aO ao ax E b) (f : MS E [[a], b]) (i : SlR eI E (fl [[a], b]) G H F) (m : E.heap[a]? = some (.cells #[Vl G F H, Vi aO] 61 (0, 0))) (o : gen_Maker_Pieces F aO ao = some ax) : CallVC Tryz.prog 8 [Vp a 0, Vi ao] E fun Y U => ∃ ac a2, Y = Vl ac ax.1 a2 ∧ Ev [a] E U ∧ U.heap[a]? = some (.cells #[Vl G F H, Vi ax.2] 61 (0, 0)) ∧ MS U [Bk ac, [a], b] ∧ FR E.heap.size [Bk ac] ∧ OwnS (eProd eI (eIt4)) 35 U (fl [Bk ac, [a], b]) ac a2 ax.1 := by
 refine Cv hmx Tryz.func8 (by kernel_rfl) R (rs := [.tmp 4]) R (by kernel_rfl) (args := [Vp a 0, Vi ao]) R ?_
 have k : Ev [a] E E := Ev.refl _ _
 have v : FR E.heap.size [] := FR.nil _
 refine Cs (Xu 1 [(4, Z0)] (Xk (Cs (Xu 1 [(5, Z0)] (Xk (Cq (Cs (Xu 2 [(8, Vp a 0), (9, Vi ao)] ?_))))))))
 obtain ⟨aE, r, o⟩ := Bs o
 have C : MS E ([[a]] ++ [b]) := f.pk [0, 1] _ R
 have L : ∀ e ∈ fl ([[a]] ++ [b]), e ∈ fl [[a], b] := Pk [0, 1] _ R
 have D : ∀ e ∈ fl ([[a]] ++ [(fl [b])]), e ∈ fl [[a], b] := fun e r => L e (Fu e r)
 have I := gen_Maker_Next_w a G H F aO ao _ E (fl [b]) (C.fold (P := [[a]])) (i.sub D) m r
 refine Xc 5 #[] #[] _ _ R R R R I ?_
 rintro Y a7 ⟨rfl, aH, bq⟩
 refine I1 ?_
 have y : ∀ e ∈ fl ([[a]] ++ [b]), e ∈ fl [[a], b] := Pk [0, 1] _ R
 have O := Stp.call (LS := [[a], b]) (res := []) (par := [[a]]) (R := [b]) aH (fun n p => y n (fl_left' (P := [[a]]) n p)) (FR.nil _) (NP.init _ _) (fun e r => y e (fl_right' (P := [[a]]) e r))
 have N : ∀ e ∈ fl [[a], b], e ∈ fl ([] ++ ([[a]] ++ [b])) := Pk [0, 1] _ R
 have g := O.res N
 have i := i.step g
 have f := f.ev aH
 have k := k.then aH (fun n p => .inl (by simpa using p))
 have m := bq
 refine Xu 2 [(11, Vi (i64.wrap (1 + aE.1))), (6, Vi (i64.wrap (1 + aE.1)))] (Xk (Cb ?_))
 have g := Stp.push (ls := [[a], b]) (l := Bk none) (Ev.refl [] a7) (fun _ o => by cases o) (fun _ o => by cases o)
 have i := i.step g
 have m := (Ev.refl [] _).box m nn
 have f := f.push (l := Bk none) (Ev.refl [] _) (fun _ o => by cases o)
 have v := v.push (l := Bk none) (fun _ o => by cases o)
 have bk := OwnS.nil (eProd eI (eIt4)) 35 a7 (fl [Bk none, [a], b])
 obtain ⟨a8, aG, a9⟩ := Bs o
 obtain ⟨ab, aG⟩ := Lo aG
 refine Cl (Lr hmx (σ := Nat × Int × (List (Int × Int × Int × Int × Int)) × Int × Option Addr × Nat) (fun ap => match ap with | (_, ad, j, w, d, x) => [(0, Vp a 0), (5, Vl d j x), (6, Vi w)]) (fun ap U => match ap with | (bL, ad, j, w, d, x) => loopN (gen_Maker_Pieces_L5 F) bL (ad, j, w) = some a8 ∧ Ev [a] E U ∧ MS U [Bk d, [a], b] ∧ FR E.heap.size [Bk d] ∧ SlR eI U (fl [Bk d, [a], b]) G H F ∧ U.heap[a]? = some (.cells #[Vl G F H, Vi ad] 61 (0, 0)) ∧ OwnS (eProd eI (eIt4)) 35 U (fl [Bk d, [a], b]) d x j) (fun ap => ap.1) (ab, aE.2, ([] : List (Int × Int × Int × Int × Int)), i64.wrap (1 + aE.1), none, 0) ⟨R, R, R, T0⟩ ⟨aG, k, f, v, i, m, bk⟩ ?_)
 rintro ⟨ab, ad, j, w, d, x⟩ aF b9 ⟨aa, k, f, v, i, m, q⟩
 rcases ab with _ | ab
 · exact (Lz aa).elim
 obtain ⟨b3, o, aa⟩ := Bs aa
 refine Cq (Cs (Xu 2 [(12, Vi w), (13, Bd (w > 0))] (Xk (Cn [(0, Vp a 0), (5, Vl d j x), (6, Vi w), (13, Bd (w > 0))] (fun aF => ?_)))))
 refine Ci (decide (w > 0)) R o (fun o => ?_) (fun o => ?_)
 · refine Ck (Kt (Cq (Cb (Cs (Xu 1 [(16, Vl d j x)] (Xn (vs := [Vl d j x]) (Vi ((j).length : Int)) R R R (Rl tsl32 _ _ _ _ _) (Xu 2 [(18, Vi (i64.wrap (((j).length : Int) + 1))), (19, Vp a 0)] (Xb (vs := [(0, Vi 1), (1, Vi 1000), (2, Vi 5000), (3, Vi 9000), (4, Vi 30000), (5, Vi 100000)]) #[Vi 1, Vi 1000, Vi 5000, Vi 9000, Vi 30000, Vi 100000] 3 R R R (by kernel_rfl) (fun a1 aC bw bh an b2 => ?_)))))))))
   refine I1 ?_
   have J := f
   have g := Stp.ext (ls := [Bk d, [a], b]) an
   have m := an.box m nn
   have i := i.step g
   have q := q.step g an nn2
   have f := f.ev an
   have k := k.ext an
   have bH : SlR eI aC (fl [Bk d, [a], b]) (Ad a1 0) 6 ([1, 1000, 5000, 9000, 30000, 100000]) := ro_of_box J bw bh R R (cells_at (cs := [Vi 1, Vi 1000, Vi 5000, Vi 9000, Vi 30000, Vi 100000]) (CellsOf.cons (c := [Vi 1]) R (CellsOf.cons (c := [Vi 1000]) R (CellsOf.cons (c := [Vi 5000]) R (CellsOf.cons (c := [Vi 9000]) R (CellsOf.cons (c := [Vi 30000]) R (CellsOf.cons (c := [Vi 100000]) R CellsOf.nil)))))))
   obtain ⟨u, r, o⟩ := Bs o
   have C : MS aC ([[a]] ++ [Bk d, b]) := f.pk [1, 0, 2] _ R
   have L : ∀ e ∈ fl ([[a]] ++ [Bk d, b]), e ∈ fl [Bk d, [a], b] := Pk [1, 0, 2] _ R
   have D : ∀ e ∈ fl ([[a]] ++ [(fl [Bk d, b])]), e ∈ fl [Bk d, [a], b] := fun e r => L e (Fu e r)
   have I := gen_Maker_Pick_w a G H F ad (Ad a1 0) 6 ([1, 1000, 5000, 9000, 30000, 100000]) _ aC (fl [Bk d, b]) (C.fold (P := [[a]])) (i.sub D) m (bH.sub D) r
   refine Xc 7 #[] #[] _ _ R R R R I ?_
   rintro Y b4 ⟨rfl, aq, bl⟩
   refine I1 ?_
   have K : MS aC ([[a]] ++ [Bk d, b]) := f.pk [1, 0, 2] _ R
   have y : ∀ e ∈ fl ([[a]] ++ [Bk d, b]), e ∈ fl [Bk d, [a], b] := Pk [1, 0, 2] _ R
   have O := Stp.call (LS := [Bk d, [a], b]) (res := []) (par := [[a]]) (R := [Bk d, b]) aq (fun n p => y n (fl_left' (P := [[a]]) n p)) (FR.nil _) (NP.init _ _) (fun e r => y e (fl_right' (P := [[a]]) e r))
   have N : ∀ e ∈ fl [Bk d, [a], b], e ∈ fl ([] ++ ([[a]] ++ [Bk d, b])) := Pk [1, 0, 2] _ R
   have g := O.res N
   have i := i.step g
   have q := q.step g aq (MS.outs (P := [[a]]) K 0 R)
   have f := f.ev aq
   have k := k.then aq (fun n p => .inl (by simpa using p))
   have m := bl
   refine Xu 1 [(22, Vp a 0)] (Xb (vs := [(0, Vi 0), (1, Vi 100), (2, Vi (-150)), (3, Vi 400), (4, Vi 1000), (5, Vi 3500), (6, Vi 5000)]) #[Vi 0, Vi 100, Vi (-150), Vi 400, Vi 1000, Vi 3500, Vi 5000] 3 R R R (by kernel_rfl) (fun aU ay br ba ae bU => ?_))
   refine I1 ?_
   have J := f
   have g := Stp.ext (ls := [Bk d, [a], b]) ae
   have m := ae.box m nn
   have i := i.step g
   have q := q.step g ae nn2
   have f := f.ev ae
   have k := k.ext ae
   have bC : SlR eI ay (fl [Bk d, [a], b]) (Ad aU 0) 7 ([0, 100, (-150), 400, 1000, 3500, 5000]) := ro_of_box J br ba R R (cells_at (cs := [Vi 0, Vi 100, Vi (-150), Vi 400, Vi 1000, Vi 3500, Vi 5000]) (CellsOf.cons (c := [Vi 0]) R (CellsOf.cons (c := [Vi 100]) R (CellsOf.cons (c := [Vi (-150)]) R (CellsOf.cons (c := [Vi 400]) R (CellsOf.cons (c := [Vi 1000]) R (CellsOf.cons (c := [Vi 3500]) R (CellsOf.cons (c := [Vi 5000]) R CellsOf.nil))))))))
   obtain ⟨t, r, o⟩ := Bs o
   have C : MS ay ([[a]] ++ [Bk d, b]) := f.pk [1, 0, 2] _ R
   have L : ∀ e ∈ fl ([[a]] ++ [Bk d, b]), e ∈ fl [Bk d, [a], b] := Pk [1, 0, 2] _ R
   have D : ∀ e ∈ fl ([[a]] ++ [(fl [Bk d, b])]), e ∈ fl [Bk d, [a], b] := fun e r => L e (Fu e r)
   have I := gen_Maker_Pick_w a G H F u.2 (Ad aU 0) 7 ([0, 100, (-150), 400, 1000, 3500, 5000]) _ ay (fl [Bk d, b]) (C.fold (P := [[a]])) (i.sub D) m (bC.sub D) r
   refine Xc 7 #[] #[] _ _ R R R R I ?_
   rintro Y b5 ⟨rfl, ar, bm⟩
   refine I1 ?_
   have K : MS ay ([[a]] ++ [Bk d, b]) := f.pk [1, 0, 2] _ R
   have y : ∀ e ∈ fl ([[a]] ++ [Bk d, b]), e ∈ fl [Bk d, [a], b] := Pk [1, 0, 2] _ R
   have O := Stp.call (LS := [Bk d, [a], b]) (res := []) (par := [[a]]) (R := [Bk d, b]) ar (fun n p => y n (fl_left' (P := [[a]]) n p)) (FR.nil _) (NP.init _ _) (fun e r => y e (fl_right' (P := [[a]]) e r))
   have N : ∀ e ∈ fl [Bk d, [a], b], e ∈ fl ([] ++ ([[a]] ++ [Bk d, b])) := Pk [1, 0, 2] _ R
   have g := O.res N
   have i := i.step g
   have q := q.step g ar (MS.outs (P := [[a]]) K 0 R)
   have f := f.ev ar
   have k := k.then ar (fun n p => .inl (by simpa using p))
   have m := bm
   refine Xu 1 [(25, Vp a 0)] (Xb (vs := [(0, Vi 0), (1, Vi 0), (2, Vi 20), (3, Vi 150)]) #[Vi 0, Vi 0, Vi 20, Vi 150] 3 R R R (by kernel_rfl) (fun aX az bs bb af bX => ?_))
   refine I1 ?_
   have J := f
   have g := Stp.ext (ls := [Bk d, [a], b]) af
   have m := af.box m nn
   have i := i.step g
   have q := q.step g af nn2
   have f := f.ev af
   have k := k.ext af
   have bD : SlR eI az (fl [Bk d, [a], b]) (Ad aX 0) 4 ([0, 0, 20, 150]) := ro_of_box J bs bb R R (cells_at (cs := [Vi 0, Vi 0, Vi 20, Vi 150]) (CellsOf.cons (c := [Vi 0]) R (CellsOf.cons (c := [Vi 0]) R (CellsOf.cons (c := [Vi 20]) R (CellsOf.cons (c := [Vi 150]) R CellsOf.nil)))))
   obtain ⟨s, r, o⟩ := Bs o
   have C : MS az ([[a]] ++ [Bk d, b]) := f.pk [1, 0, 2] _ R
   have L : ∀ e ∈ fl ([[a]] ++ [Bk d, b]), e ∈ fl [Bk d, [a], b] := Pk [1, 0, 2] _ R
   have D : ∀ e ∈ fl ([[a]] ++ [(fl [Bk d, b])]), e ∈ fl [Bk d, [a], b] := fun e r => L e (Fu e r)
   have I := gen_Maker_Pick_w a G H F t.2 (Ad aX 0) 4 ([0, 0, 20, 150]) _ az (fl [Bk d, b]) (C.fold (P := [[a]])) (i.sub D) m (bD.sub D) r
   refine Xc 7 #[] #[] _ _ R R R R I ?_
   rintro Y b6 ⟨rfl, au, bn⟩
   refine I1 ?_
   have K : MS az ([[a]] ++ [Bk d, b]) := f.pk [1, 0, 2] _ R
   have y : ∀ e ∈ fl ([[a]] ++ [Bk d, b]), e ∈ fl [Bk d, [a], b] := Pk [1, 0, 2] _ R
   have O := Stp.call (LS := [Bk d, [a], b]) (res := []) (par := [[a]]) (R := [Bk d, b]) au (fun n p => y n (fl_left' (P := [[a]]) n p)) (FR.nil _) (NP.init _ _) (fun e r => y e (fl_right' (P := [[a]]) e r))
   have N : ∀ e ∈ fl [Bk d, [a], b], e ∈ fl ([] ++ ([[a]] ++ [Bk d, b])) := Pk [1, 0, 2] _ R
   have g := O.res N
   have i := i.step g
   have q := q.step g au (MS.outs (P := [[a]]) K 0 R)
   have f := f.ev au
   have k := k.then au (fun n p => .inl (by simpa using p))
   have m := bn
   refine Xd (vs := [(0, Vi (i64.wrap (((j).length : Int) + 1))), (1, Vi u.1), (2, Vi t.1), (3, Vi s.1)]) (.agg #[Vi (i64.wrap (((j).length : Int) + 1)), Vi u.1, Vi t.1, Vi s.1, Vi 0]) R R R (fun _ _ => by kernel_rfl) ?_
   refine Xa (z := .agg #[Vi 0, Vi 0, Vi 0, Vi 0, Vi 0]) R R (by kernel_rfl) (fun h bN aN B ag bY => ?_)
   replace B : bN.heap[h]? = some (.cells #[Vi 0, Vi 0, Vi 0, Vi 0, Vi 0] 35 (0, 0)) := B
   refine I1 ?_
   have g := Stp.box (ls := [Bk d, [a], b]) ag aN
   have m := ag.box m nn
   have i := i.step g
   have q := q.step g ag nn2
   have f := f.box ag aN B
   have v := v.box k.size aN
   have k := k.ext ag
   obtain ⟨aA, bx, bc, ah⟩ := Sa [Vi (i64.wrap (((j).length : Int) + 1)), Vi u.1, Vi t.1, Vi s.1, Vi 0] tagg35 B R R R
   refine Ys aA _ _ R bx (I1 ?_)
   have g := Stp.ev' (ls := [[h], Bk d, [a], b]) ah (Mf 0 R)
   have m := ah.box m (f.apart 2 0 R R R _ mem1)
   have i := i.step g
   have q := q.step g ah (f.apart 1 0 R R R)
   have f := f.ev ah
   have k := k.then ah (fun n p => .inr (v.at 0 R n p))
   have B := bc
   refine Xk (Cn [(0, Vp a 0), (5, Vl d j x), (6, Vi w), (7, Vp h 0)] (fun aF => ?_))
   refine Cq (Cs (Xu 1 [(29, Vp a 0)] ?_))
   obtain ⟨aD, r, o⟩ := Bs o
   have C : MS aA ([[a]] ++ [[h], Bk d, b]) := f.pk [2, 0, 1, 3] _ R
   have L : ∀ e ∈ fl ([[a]] ++ [[h], Bk d, b]), e ∈ fl [[h], Bk d, [a], b] := Pk [2, 0, 1, 3] _ R
   have D : ∀ e ∈ fl ([[a]] ++ [(fl [[h], Bk d, b])]), e ∈ fl [[h], Bk d, [a], b] := fun e r => L e (Fu e r)
   have I := gen_Maker_Next_w a G H F s.2 4 _ aA (fl [[h], Bk d, b]) (C.fold (P := [[a]])) (i.sub D) m r
   refine Xc 5 #[] #[] _ _ R R R R I ?_
   rintro Y b7 ⟨rfl, ai, bo⟩
   refine I1 ?_
   have K : MS aA ([[a]] ++ [[h], Bk d, b]) := f.pk [2, 0, 1, 3] _ R
   have y : ∀ e ∈ fl ([[a]] ++ [[h], Bk d, b]), e ∈ fl [[h], Bk d, [a], b] := Pk [2, 0, 1, 3] _ R
   have O := Stp.call (LS := [[h], Bk d, [a], b]) (res := []) (par := [[a]]) (R := [[h], Bk d, b]) ai (fun n p => y n (fl_left' (P := [[a]]) n p)) (FR.nil _) (NP.init _ _) (fun e r => y e (fl_right' (P := [[a]]) e r))
   have N : ∀ e ∈ fl [[h], Bk d, [a], b], e ∈ fl ([] ++ ([[a]] ++ [[h], Bk d, b])) := Pk [1, 2, 0, 3] _ R
   have g := O.res N
   have i := i.step g
   have q := q.step g ai (MS.outs (P := [[a]]) K 1 R)
   have B := ai.box B ((MS.outs (P := [[a]]) K 0 R) _ mem1)
   have f := f.ev ai
   have k := k.then ai (fun n p => .inl (by simpa using p))
   have m := bo
   refine Xu 1 [(31, .bool (aD.1 == 0))] (Xk (Ci (aD.1 == 0) R o (fun o => ?_) (fun o => ?_)))
   · refine Cp (Xu 1 [(32, Vp a 0)] (Xb (vs := [(0, Vi 1), (1, Vi 500000), (2, Vi 2000000), (3, Vi 8000000), (4, Vi 30000000)]) #[Vi 1, Vi 500000, Vi 2000000, Vi 8000000, Vi 30000000] 3 R R R (by kernel_rfl) (fun aY aB bt bd Z bZ => ?_)))
     refine I1 ?_
     have J := f
     have g := Stp.ext (ls := [[h], Bk d, [a], b]) Z
     have m := Z.box m nn
     have i := i.step g
     have q := q.step g Z nn2
     have B := Z.box B nn
     have f := f.ev Z
     have k := k.ext Z
     have bE : SlR eI aB (fl [[h], Bk d, [a], b]) (Ad aY 0) 5 ([1, 500000, 2000000, 8000000, 30000000]) := ro_of_box J bt bd R R (cells_at (cs := [Vi 1, Vi 500000, Vi 2000000, Vi 8000000, Vi 30000000]) (CellsOf.cons (c := [Vi 1]) R (CellsOf.cons (c := [Vi 500000]) R (CellsOf.cons (c := [Vi 2000000]) R (CellsOf.cons (c := [Vi 8000000]) R (CellsOf.cons (c := [Vi 30000000]) R CellsOf.nil))))))
     obtain ⟨A, r, o⟩ := Bs o
     have C : MS aB ([[a]] ++ [[h], Bk d, b]) := f.pk [2, 0, 1, 3] _ R
     have L : ∀ e ∈ fl ([[a]] ++ [[h], Bk d, b]), e ∈ fl [[h], Bk d, [a], b] := Pk [2, 0, 1, 3] _ R
     have D : ∀ e ∈ fl ([[a]] ++ [(fl [[h], Bk d, b])]), e ∈ fl [[h], Bk d, [a], b] := fun e r => L e (Fu e r)
     have I := gen_Maker_Pick_w a G H F aD.2 (Ad aY 0) 5 ([1, 500000, 2000000, 8000000, 30000000]) _ aB (fl [[h], Bk d, b]) (C.fold (P := [[a]])) (i.sub D) m (bE.sub D) r
     refine Xc 7 #[] #[] _ _ R R R R I ?_
     rintro Y b8 ⟨rfl, aj, bp⟩
     refine I1 ?_
     have K : MS aB ([[a]] ++ [[h], Bk d, b]) := f.pk [2, 0, 1, 3] _ R
     have y : ∀ e ∈ fl ([[a]] ++ [[h], Bk d, b]), e ∈ fl [[h], Bk d, [a], b] := Pk [2, 0, 1, 3] _ R
     have O := Stp.call (LS := [[h], Bk d, [a], b]) (res := []) (par := [[a]]) (R := [[h], Bk d, b]) aj (fun n p => y n (fl_left' (P := [[a]]) n p)) (FR.nil _) (NP.init _ _) (fun e r => y e (fl_right' (P := [[a]]) e r))
     have N : ∀ e ∈ fl [[h], Bk d, [a], b], e ∈ fl ([] ++ ([[a]] ++ [[h], Bk d, b])) := Pk [1, 2, 0, 3] _ R
     have g := O.res N
     have i := i.step g
     have q := q.step g aj (MS.outs (P := [[a]]) K 1 R)
     have B := aj.box B ((MS.outs (P := [[a]]) K 0 R) _ mem1)
     have f := f.ev aj
     have k := k.then aj (fun n p => .inl (by simpa using p))
     have m := bp
     refine Yf (Vp h 0) (Vp h 4) R (Rf tfld35_4 _ _) ?_
     obtain ⟨bO, bz, be, ak⟩ := store_box 4 (Vi A.1) #[Vi (i64.wrap (((j).length : Int) + 1)), Vi u.1, Vi t.1, Vi s.1, Vi A.1] tcell3 B R R R
     refine Ys bO _ _ R bz (I1 ?_)
     have g := Stp.ev' (ls := [[h], Bk d, [a], b]) ak (Mf 0 R)
     have m := ak.box m (f.apart 2 0 R R R _ mem1)
     have i := i.step g
     have q := q.step g ak (f.apart 1 0 R R R)
     have f := f.ev ak
     have k := k.then ak (fun n p => .inr (v.at 0 R n p))
     have B := be
     refine Xk (Cp (Xu 1 [(36, Vl d j x)] (Yl _ _ R (Ra 0 [Vi (i64.wrap (((j).length : Int) + 1)), Vi u.1, Vi t.1, Vi s.1, Vi A.1] tagg35 B nn R) (Xb (vs := [(0, .agg #[Vi (i64.wrap (((j).length : Int) + 1)), Vi u.1, Vi t.1, Vi s.1, Vi A.1])]) #[Vi (i64.wrap (((j).length : Int) + 1)), Vi u.1, Vi t.1, Vi s.1, Vi A.1] 35 R R R (by kernel_rfl) (fun aZ a5 bu bf al b0 => ?_)))))
     refine I1 ?_
     have J := f
     have g := Stp.ext (ls := [[h], Bk d, [a], b]) al
     have m := al.box m nn
     have i := i.step g
     have q := q.step g al nn2
     have f := f.ev al
     have k := k.ext al
     have bF : SlR (eProd eI (eIt4)) a5 (fl [[h], Bk d, [a], b]) (Ad aZ 0) 1 ([(i64.wrap (((j).length : Int) + 1), u.1, t.1, s.1, A.1)] : List (Int × Int × Int × Int × Int)) := ro_of_box J bu bf R R (cells_at (cs := [Vi (i64.wrap (((j).length : Int) + 1)), Vi u.1, Vi t.1, Vi s.1, Vi A.1]) (CellsOf.cons (c := [Vi (i64.wrap (((j).length : Int) + 1)), Vi u.1, Vi t.1, Vi s.1, Vi A.1]) ⟨[Vi (i64.wrap (((j).length : Int) + 1))], [Vi u.1, Vi t.1, Vi s.1, Vi A.1], R, R, ⟨[Vi u.1], [Vi t.1, Vi s.1, Vi A.1], R, R, ⟨[Vi t.1], [Vi s.1, Vi A.1], R, R, ⟨[Vi s.1], [Vi A.1], R, R, R⟩⟩⟩⟩ CellsOf.nil))
     have aJ := Gl o
     have o := Gr o
     obtain ⟨Q, a3, aQ, bA, av, aK, bQ, bI⟩ := own_appendN tel32 32 q (Mf 1 R) bF aJ
     refine x_builtin (vs := [Vl d j x, Vl (Ad aZ 0) (([(i64.wrap (((j).length : Int) + 1), u.1, t.1, s.1, A.1)] : List (Int × Int × Int × Int × Int))) 1]) _ aQ R R R R (run_value _ _ _ _ bA) (I1 ?_)
     have g : Stp (fl [[h], Bk d, [a], b]) a5 (fl [[h], Bk Q, [a], b]) aQ := Stp.upd 1 av R (fun n p => (aK n p).1)
     have m := av.box m (f.apart 2 1 R R R _ mem1)
     have i := i.step g
     replace f : MS aQ [[h], Bk Q, [a], b] := f.upd 1 av R aK
     have aI : FR E.heap.size [[h], Bk Q] := v.upd 1 R k.size (fun n p => (aK n p).1)
     have k := k.then av (fun n p => .inr (v.at 1 R n p))
     have v := aI
     have q := bI (fl [[h], Bk Q, [a], b]) g.new
     refine Xu 1 [(5, Vl Q ((j ++ ([(i64.wrap (((j).length : Int) + 1), u.1, t.1, s.1, A.1)] : List (Int × Int × Int × Int × Int)))) a3)] (Xe R (Kl (Kt (Cp (Xu 3 [(14, Vi w), (15, Vi (i64.wrap (w - 1))), (6, Vi (i64.wrap (w - 1)))] (Xe R ?_))))))
     obtain rfl := Sj o
     have C := f.pk [1, 2, 3] [Bk Q, [a], b] R
     have X := Pk (ls := [[h], Bk Q, [a], b]) [1, 2, 3] [Bk Q, [a], b] R
     have i := i.sub X
     have q := q.sub X
     have f := C
     have v := v.pk [1] [Bk Q] R
     exact Kt ⟨(ab, A.2, (j ++ ([(i64.wrap (((j).length : Int) + 1), u.1, t.1, s.1, A.1)] : List (Int × Int × Int × Int × Int))), i64.wrap (w - 1), Q, a3), ⟨R, R, R, T0⟩, ⟨aa, k, f, v, i, m, q⟩, Ns _⟩
   refine Ck (Kt (Cp (Xu 1 [(36, Vl d j x)] (Yl _ _ R (Ra 0 [Vi (i64.wrap (((j).length : Int) + 1)), Vi u.1, Vi t.1, Vi s.1, Vi 0] tagg35 B nn R) (Xb (vs := [(0, .agg #[Vi (i64.wrap (((j).length : Int) + 1)), Vi u.1, Vi t.1, Vi s.1, Vi 0])]) #[Vi (i64.wrap (((j).length : Int) + 1)), Vi u.1, Vi t.1, Vi s.1, Vi 0] 35 R R R (by kernel_rfl) (fun a0 a6 bv bg am b1 => ?_))))))
   refine I1 ?_
   have J := f
   have g := Stp.ext (ls := [[h], Bk d, [a], b]) am
   have m := am.box m nn
   have i := i.step g
   have q := q.step g am nn2
   have f := f.ev am
   have k := k.ext am
   have bG : SlR (eProd eI (eIt4)) a6 (fl [[h], Bk d, [a], b]) (Ad a0 0) 1 ([(i64.wrap (((j).length : Int) + 1), u.1, t.1, s.1, 0)] : List (Int × Int × Int × Int × Int)) := ro_of_box J bv bg R R (cells_at (cs := [Vi (i64.wrap (((j).length : Int) + 1)), Vi u.1, Vi t.1, Vi s.1, Vi 0]) (CellsOf.cons (c := [Vi (i64.wrap (((j).length : Int) + 1)), Vi u.1, Vi t.1, Vi s.1, Vi 0]) ⟨[Vi (i64.wrap (((j).length : Int) + 1))], [Vi u.1, Vi t.1, Vi s.1, Vi 0], R, R, ⟨[Vi u.1], [Vi t.1, Vi s.1, Vi 0], R, R, ⟨[Vi t.1], [Vi s.1, Vi 0], R, R, ⟨[Vi s.1], [Vi 0], R, R, R⟩⟩⟩⟩ CellsOf.nil))
   have aJ := Gl o
   have o := Gr o
   obtain ⟨S, a4, aS, bB, aw, aL, bS, bJ⟩ := own_appendN tel32 32 q (Mf 1 R) bG aJ
   refine x_builtin (vs := [Vl d j x, Vl (Ad a0 0) (([(i64.wrap (((j).length : Int) + 1), u.1, t.1, s.1, 0)] : List (Int × Int × Int × Int × Int))) 1]) _ aS R R R R (run_value _ _ _ _ bB) (I1 ?_)
   have g : Stp (fl [[h], Bk d, [a], b]) a6 (fl [[h], Bk S, [a], b]) aS := Stp.upd 1 aw R (fun n p => (aL n p).1)
   have m := aw.box m (f.apart 2 1 R R R _ mem1)
   have i := i.step g
   replace f : MS aS [[h], Bk S, [a], b] := f.upd 1 aw R aL
   have aI : FR E.heap.size [[h], Bk S] := v.upd 1 R k.size (fun n p => (aL n p).1)
   have k := k.then aw (fun n p => .inr (v.at 1 R n p))
   have v := aI
   have q := bJ (fl [[h], Bk S, [a], b]) g.new
   refine Xu 1 [(5, Vl S ((j ++ ([(i64.wrap (((j).length : Int) + 1), u.1, t.1, s.1, 0)] : List (Int × Int × Int × Int × Int)))) a4)] (Xe R (Kl (Kt (Cp (Xu 3 [(14, Vi w), (15, Vi (i64.wrap (w - 1))), (6, Vi (i64.wrap (w - 1)))] (Xe R ?_))))))
   obtain rfl := Sj o
   have C := f.pk [1, 2, 3] [Bk S, [a], b] R
   have X := Pk (ls := [[h], Bk S, [a], b]) [1, 2, 3] [Bk S, [a], b] R
   have i := i.sub X
   have q := q.sub X
   have f := C
   have v := v.pk [1] [Bk S] R
   exact Kt ⟨(ab, aD.2, (j ++ ([(i64.wrap (((j).length : Int) + 1), u.1, t.1, s.1, 0)] : List (Int × Int × Int × Int × Int))), i64.wrap (w - 1), S, a4), ⟨R, R, R, T0⟩, ⟨aa, k, f, v, i, m, q⟩, Ns _⟩
 refine Ce (Ke ?_)
 obtain rfl := Sj o
 have bK := Sj aa
 subst bK
 have o := a9
 refine Ke (Ki (Kt (Cn [(5, Vl d j x)] (fun aF => ?_))))
 refine Cs (Xu 2 [(40, Vl d j x), (4, Vl d j x)] (Xk (Cr (Rr (Rv [Vl d j x] ⟨R, T0⟩ ?_)))))
 obtain rfl := Sj o
 have bj := f.pk [0, 1, 2] [Bk d, [a], b] R
 have X := Pk (ls := [Bk d, [a], b]) [0, 1, 2] [Bk d, [a], b] R
 have bi := v.pk [0] [Bk d] R
 exact ⟨d, x, R, k, m, bj, bi, q.sub X⟩
def gen_Maker_Motion_L44 (e : List Int) (f : Int × (List Int) × Int) : Option (Step (Int × (List Int) × Int) (Int × (List Int))) :=
match f with
| (c, a, d) =>
(if (decide (d > 0)) = true then
((gen_Maker_Pick e c ([(-1), 0, 800, 1200, 3000, 5000])).bind fun b =>
(if a.length + ([b.1]).length ≤ 4294967296 then
some (.next (b.2, (a ++ [b.1]), i64.wrap (d - 1)))
else none))
else
some (.done (c, a)))
def gen_Maker_Motion_L30 (d : List (Int × Int × Int × Int × Int)) (b : Int × Int) (e : Int × Int) (h : (List (Int × Int)) × Int) : Option (Step ((List (Int × Int)) × Int) (List (Int × Int))) :=
match h with
| (c, a) =>
(if (decide (a < ((d).length : Int))) = true then
((idx d a).bind fun f =>
((idx d a).bind fun g =>
(if c.length + ([(i64.wrap (b.1 + f.2.2.2.1), i64.wrap ((i64.wrap (b.1 + e.1)) + g.2.2.2.1))] : List (Int × Int)).length ≤ 4294967296 then
some (.next ((c ++ ([(i64.wrap (b.1 + f.2.2.2.1), i64.wrap ((i64.wrap (b.1 + e.1)) + g.2.2.2.1))] : List (Int × Int))), i64.wrap (a + 1)))
else none)))
else
some (.done c))
def gen_Maker_Motion (a : List Int) (l : Int) (d : List (Int × Int × Int × Int × Int)) : Option (((Int × Int) × (List (Int × Int)) × Int × (List Int)) × Int) :=
((gen_Maker_Pick a l ([0, 500, 1200, 1400, 2000])).bind fun c =>
((gen_Maker_Pick a c.2 ([0, 10, 100])).bind fun e =>
((gen_Maker_Pick a e.2 ([0, 20, 100])).bind fun f =>
((gen_Maker_Pick a f.2 ([0, 10, 20, 60])).bind fun g =>
((gen_Maker_Pick a g.2 ([0, 5, 30, 150])).bind fun h =>
((loop (gen_Maker_Motion_L30 d g h) (([] : List (Int × Int)), 0)).bind fun b => match b with
| i => ((r20_Retarders d).bind fun m =>
((loop (gen_Maker_Motion_L44 a) (h.2, ([] : List Int), m)).bind fun b => match b with
| (k, j) => some (((c.1, i64.wrap (c.1 + e.1)), i, f.1, j), k)))))))))
theorem gen_Maker_Motion_w (a aa ab Q bs K L C ao J d) (f : MS J [[a], d]) (i : SlR eI J (fl [[a], d]) aa ab Q) (n : J.heap[a]? = some (.cells #[Vl aa Q ab, Vi bs] 61 (0, 0))) (q : SlR (eProd eI (eIt4)) J (fl [[a], d]) K L C) (m : gen_Maker_Motion Q bs C = some ao) : CallVC Tryz.prog 9 [Vp a 0, Vl K C L] J fun av A => ∃ aC bE aD bF, av = .agg #[Vi ao.1.1.1, Vi ao.1.1.2, Vl aC ao.1.2.1 bE, Vi ao.1.2.2.1, Vl aD ao.1.2.2.2 bF] ∧ Ev [a] J A ∧ A.heap[a]? = some (.cells #[Vl aa Q ab, Vi ao.2] 61 (0, 0)) ∧ MS A [Bk aC, Bk aD, [a], d] ∧ FR J.heap.size [Bk aC, Bk aD] ∧ OwnS (eProd eI eI) 37 A (fl [Bk aC, Bk aD, [a], d]) aC bE ao.1.2.1 ∧ OwnS eI 3 A (fl [Bk aC, Bk aD, [a], d]) aD bF ao.1.2.2.2 := by
 refine Cv hmx Tryz.func9 (by kernel_rfl) R (rs := [.cell 4 40]) R (by kernel_rfl) (args := [Vp a 0, Vl K C L]) R ?_
 have o : Ev [a] J J := Ev.refl _ _
 have y : FR J.heap.size [] := FR.nil _
 refine Cs (Xa (z := .agg #[Vi 0, Vi 0, Z0, Vi 0, Z0]) R R (by kernel_rfl) (fun b cN bp k a3 c6 => ?_))
 replace k : cN.heap[b]? = some (.cells #[Vi 0, Vi 0, Z0, Vi 0, Z0] 40 (0, 0)) := k
 refine I1 ?_
 have g := Stp.box (ls := [[a], d]) a3 bp
 have i := i.step g
 have n := a3.box n nn
 have q := q.step g
 have f := f.box a3 bp k
 have y := y.box o.size bp
 have o := o.ext a3
 refine Xk (Cs (Xu 1 [(11, Vp a 0)] (Xb (vs := [(0, Vi 0), (1, Vi 500), (2, Vi 1200), (3, Vi 1400), (4, Vi 2000)]) #[Vi 0, Vi 500, Vi 1200, Vi 1400, Vi 2000] 3 R R R (by kernel_rfl) (fun bD ba co b6 aU c9 => ?_))))
 refine I1 ?_
 have N := f
 have g := Stp.ext (ls := [[b], [a], d]) aU
 have i := i.step g
 have n := aU.box n nn
 have q := q.step g
 have k := aU.box k nn
 have f := f.ev aU
 have o := o.ext aU
 have cF : SlR eI ba (fl [[b], [a], d]) (Ad bD 0) 5 ([0, 500, 1200, 1400, 2000]) := ro_of_box N co b6 R R (cells_at (cs := [Vi 0, Vi 500, Vi 1200, Vi 1400, Vi 2000]) (CellsOf.cons (c := [Vi 0]) R (CellsOf.cons (c := [Vi 500]) R (CellsOf.cons (c := [Vi 1200]) R (CellsOf.cons (c := [Vi 1400]) R (CellsOf.cons (c := [Vi 2000]) R CellsOf.nil))))))
 obtain ⟨x, v, m⟩ := Bs m
 have O : MS ba ([[a]] ++ [[b], d]) := f.pk [1, 0, 2] _ R
 have ag : ∀ h ∈ fl ([[a]] ++ [[b], d]), h ∈ fl [[b], [a], d] := Pk [1, 0, 2] _ R
 have E : ∀ h ∈ fl ([[a]] ++ [(fl [[b], d])]), h ∈ fl [[b], [a], d] := fun h v => ag h (Fu h v)
 have ac := gen_Maker_Pick_w a aa ab Q bs (Ad bD 0) 5 ([0, 500, 1200, 1400, 2000]) _ ba (fl [[b], d]) (O.fold (P := [[a]])) (i.sub E) n (cF.sub E) v
 refine Xc 7 #[] #[] _ _ R R R R ac ?_
 rintro av dg ⟨rfl, a4, cg⟩
 refine I1 ?_
 have H : MS ba ([[a]] ++ [[b], d]) := f.pk [1, 0, 2] _ R
 have F : ∀ h ∈ fl ([[a]] ++ [[b], d]), h ∈ fl [[b], [a], d] := Pk [1, 0, 2] _ R
 have ai := Stp.call (LS := [[b], [a], d]) (res := []) (par := [[a]]) (R := [[b], d]) a4 (fun r s => F r (fl_left' (P := [[a]]) r s)) (FR.nil _) (NP.init _ _) (fun h v => F h (fl_right' (P := [[a]]) h v))
 have ah : ∀ h ∈ fl [[b], [a], d], h ∈ fl ([] ++ ([[a]] ++ [[b], d])) := Pk [1, 0, 2] _ R
 have g := ai.res ah
 have i := i.step g
 have q := q.step g
 have k := a4.box k ((MS.outs (P := [[a]]) H 0 R) _ mem1)
 have f := f.ev a4
 have o := o.then a4 (fun r s => .inl (by simpa using s))
 have n := cg
 refine Xu 1 [(5, Vi x.1)] (Xk (Cs (Xu 3 [(14, Vi x.1), (15, Vi x.1), (16, Vp a 0)] (Xb (vs := [(0, Vi 0), (1, Vi 10), (2, Vi 100)]) #[Vi 0, Vi 10, Vi 100] 3 R R R (by kernel_rfl) (fun bv a5 ch bS aK c0 => ?_)))))
 refine I1 ?_
 have N := f
 have g := Stp.ext (ls := [[b], [a], d]) aK
 have i := i.step g
 have n := aK.box n nn
 have q := q.step g
 have k := aK.box k nn
 have f := f.ev aK
 have o := o.ext aK
 have cy : SlR eI a5 (fl [[b], [a], d]) (Ad bv 0) 3 ([0, 10, 100]) := ro_of_box N ch bS R R (cells_at (cs := [Vi 0, Vi 10, Vi 100]) (CellsOf.cons (c := [Vi 0]) R (CellsOf.cons (c := [Vi 10]) R (CellsOf.cons (c := [Vi 100]) R CellsOf.nil))))
 obtain ⟨S, v, m⟩ := Bs m
 have O : MS a5 ([[a]] ++ [[b], d]) := f.pk [1, 0, 2] _ R
 have ag : ∀ h ∈ fl ([[a]] ++ [[b], d]), h ∈ fl [[b], [a], d] := Pk [1, 0, 2] _ R
 have E : ∀ h ∈ fl ([[a]] ++ [(fl [[b], d])]), h ∈ fl [[b], [a], d] := fun h v => ag h (Fu h v)
 have ac := gen_Maker_Pick_w a aa ab Q x.2 (Ad bv 0) 3 ([0, 10, 100]) _ a5 (fl [[b], d]) (O.fold (P := [[a]])) (i.sub E) n (cy.sub E) v
 refine Xc 7 #[] #[] _ _ R R R R ac ?_
 rintro av dc ⟨rfl, a1, cb⟩
 refine I1 ?_
 have H : MS a5 ([[a]] ++ [[b], d]) := f.pk [1, 0, 2] _ R
 have F : ∀ h ∈ fl ([[a]] ++ [[b], d]), h ∈ fl [[b], [a], d] := Pk [1, 0, 2] _ R
 have ai := Stp.call (LS := [[b], [a], d]) (res := []) (par := [[a]]) (R := [[b], d]) a1 (fun r s => F r (fl_left' (P := [[a]]) r s)) (FR.nil _) (NP.init _ _) (fun h v => F h (fl_right' (P := [[a]]) h v))
 have ah : ∀ h ∈ fl [[b], [a], d], h ∈ fl ([] ++ ([[a]] ++ [[b], d])) := Pk [1, 0, 2] _ R
 have g := ai.res ah
 have i := i.step g
 have q := q.step g
 have k := a1.box k ((MS.outs (P := [[a]]) H 0 R) _ mem1)
 have f := f.ev a1
 have o := o.then a1 (fun r s => .inl (by simpa using s))
 have n := cb
 refine Xu 1 [(19, Vi (i64.wrap (x.1 + S.1)))] (Xd (vs := [(0, Vi x.1), (1, Vi (i64.wrap (x.1 + S.1)))]) (.agg #[Vi x.1, Vi (i64.wrap (x.1 + S.1))]) R R R (fun _ _ => by kernel_rfl) ?_)
 refine Xu 1 [(21, Vp a 0)] (Xb (vs := [(0, Vi 0), (1, Vi 20), (2, Vi 100)]) #[Vi 0, Vi 20, Vi 100] 3 R R R (by kernel_rfl) (fun bw a6 ci bU aL c1 => ?_))
 refine I1 ?_
 have N := f
 have g := Stp.ext (ls := [[b], [a], d]) aL
 have i := i.step g
 have n := aL.box n nn
 have q := q.step g
 have k := aL.box k nn
 have f := f.ev aL
 have o := o.ext aL
 have cz : SlR eI a6 (fl [[b], [a], d]) (Ad bw 0) 3 ([0, 20, 100]) := ro_of_box N ci bU R R (cells_at (cs := [Vi 0, Vi 20, Vi 100]) (CellsOf.cons (c := [Vi 0]) R (CellsOf.cons (c := [Vi 20]) R (CellsOf.cons (c := [Vi 100]) R CellsOf.nil))))
 obtain ⟨ae, v, m⟩ := Bs m
 have O : MS a6 ([[a]] ++ [[b], d]) := f.pk [1, 0, 2] _ R
 have ag : ∀ h ∈ fl ([[a]] ++ [[b], d]), h ∈ fl [[b], [a], d] := Pk [1, 0, 2] _ R
 have E : ∀ h ∈ fl ([[a]] ++ [(fl [[b], d])]), h ∈ fl [[b], [a], d] := fun h v => ag h (Fu h v)
 have ac := gen_Maker_Pick_w a aa ab Q S.2 (Ad bw 0) 3 ([0, 20, 100]) _ a6 (fl [[b], d]) (O.fold (P := [[a]])) (i.sub E) n (cz.sub E) v
 refine Xc 7 #[] #[] _ _ R R R R ac ?_
 rintro av dd ⟨rfl, a2, cc⟩
 refine I1 ?_
 have H : MS a6 ([[a]] ++ [[b], d]) := f.pk [1, 0, 2] _ R
 have F : ∀ h ∈ fl ([[a]] ++ [[b], d]), h ∈ fl [[b], [a], d] := Pk [1, 0, 2] _ R
 have ai := Stp.call (LS := [[b], [a], d]) (res := []) (par := [[a]]) (R := [[b], d]) a2 (fun r s => F r (fl_left' (P := [[a]]) r s)) (FR.nil _) (NP.init _ _) (fun h v => F h (fl_right' (P := [[a]]) h v))
 have ah : ∀ h ∈ fl [[b], [a], d], h ∈ fl ([] ++ ([[a]] ++ [[b], d])) := Pk [1, 0, 2] _ R
 have g := ai.res ah
 have i := i.step g
 have q := q.step g
 have k := a2.box k ((MS.outs (P := [[a]]) H 0 R) _ mem1)
 have f := f.ev a2
 have o := o.then a2 (fun r s => .inl (by simpa using s))
 have n := cc
 refine Xd (vs := [(0, .agg #[Vi x.1, Vi (i64.wrap (x.1 + S.1))]), (2, Vi ae.1)]) (.agg #[Vi x.1, Vi (i64.wrap (x.1 + S.1)), Z0, Vi ae.1, Z0]) R R R (fun _ _ => by kernel_rfl) ?_
 refine Xa (z := .agg #[Vi 0, Vi 0, Z0, Vi 0, Z0]) R R (by kernel_rfl) (fun e cK bo p aN c2 => ?_)
 replace p : cK.heap[e]? = some (.cells #[Vi 0, Vi 0, Z0, Vi 0, Z0] 40 (0, 0)) := p
 refine I1 ?_
 have g := Stp.box (ls := [[b], [a], d]) aN bo
 have i := i.step g
 have n := aN.box n nn
 have q := q.step g
 have k := aN.box k nn
 have f := f.box aN bo p
 have y := y.box o.size bo
 have o := o.ext aN
 obtain ⟨cL, cp, bX, aO⟩ := Sa [Vi x.1, Vi (i64.wrap (x.1 + S.1)), Z0, Vi ae.1, Z0] tagg40 p R R R
 refine Ys cL _ _ R cp (I1 ?_)
 have g := Stp.ev' (ls := [[e], [b], [a], d]) aO (Mf 0 R)
 have i := i.step g
 have n := aO.box n (f.apart 2 0 R R R _ mem1)
 have q := q.step g
 have k := aO.box k (f.apart 1 0 R R R _ mem1)
 have f := f.ev aO
 have o := o.then aO (fun r s => .inr (y.at 0 R r s))
 have p := bX
 refine Xk (Cn [(0, Vp a 0), (1, Vl K C L), (4, Vp b 0), (6, Vp e 0)] (fun ay => ?_))
 refine Cs (Xu 1 [(25, Vp a 0)] (Xb (vs := [(0, Vi 0), (1, Vi 10), (2, Vi 20), (3, Vi 60)]) #[Vi 0, Vi 10, Vi 20, Vi 60] 3 R R R (by kernel_rfl) (fun bx a7 cj bY aE c3 => ?_)))
 refine I1 ?_
 have N := f
 have g := Stp.ext (ls := [[e], [b], [a], d]) aE
 have i := i.step g
 have n := aE.box n nn
 have q := q.step g
 have k := aE.box k nn
 have p := aE.box p nn
 have f := f.ev aE
 have o := o.ext aE
 have cA : SlR eI a7 (fl [[e], [b], [a], d]) (Ad bx 0) 4 ([0, 10, 20, 60]) := ro_of_box N cj bY R R (cells_at (cs := [Vi 0, Vi 10, Vi 20, Vi 60]) (CellsOf.cons (c := [Vi 0]) R (CellsOf.cons (c := [Vi 10]) R (CellsOf.cons (c := [Vi 20]) R (CellsOf.cons (c := [Vi 60]) R CellsOf.nil)))))
 obtain ⟨u, v, m⟩ := Bs m
 have O : MS a7 ([[a]] ++ [[e], [b], d]) := f.pk [2, 0, 1, 3] _ R
 have ag : ∀ h ∈ fl ([[a]] ++ [[e], [b], d]), h ∈ fl [[e], [b], [a], d] := Pk [2, 0, 1, 3] _ R
 have E : ∀ h ∈ fl ([[a]] ++ [(fl [[e], [b], d])]), h ∈ fl [[e], [b], [a], d] := fun h v => ag h (Fu h v)
 have ac := gen_Maker_Pick_w a aa ab Q ae.2 (Ad bx 0) 4 ([0, 10, 20, 60]) _ a7 (fl [[e], [b], d]) (O.fold (P := [[a]])) (i.sub E) n (cA.sub E) v
 refine Xc 7 #[] #[] _ _ R R R R ac ?_
 rintro av de ⟨rfl, aQ, cd⟩
 refine I1 ?_
 have H : MS a7 ([[a]] ++ [[e], [b], d]) := f.pk [2, 0, 1, 3] _ R
 have F : ∀ h ∈ fl ([[a]] ++ [[e], [b], d]), h ∈ fl [[e], [b], [a], d] := Pk [2, 0, 1, 3] _ R
 have ai := Stp.call (LS := [[e], [b], [a], d]) (res := []) (par := [[a]]) (R := [[e], [b], d]) aQ (fun r s => F r (fl_left' (P := [[a]]) r s)) (FR.nil _) (NP.init _ _) (fun h v => F h (fl_right' (P := [[a]]) h v))
 have ah : ∀ h ∈ fl [[e], [b], [a], d], h ∈ fl ([] ++ ([[a]] ++ [[e], [b], d])) := Pk [1, 2, 0, 3] _ R
 have g := ai.res ah
 have i := i.step g
 have q := q.step g
 have k := aQ.box k ((MS.outs (P := [[a]]) H 1 R) _ mem1)
 have p := aQ.box p ((MS.outs (P := [[a]]) H 0 R) _ mem1)
 have f := f.ev aQ
 have o := o.then aQ (fun r s => .inl (by simpa using s))
 have n := cd
 refine Xu 1 [(7, Vi u.1)] (Xk (Cs (Xu 2 [(28, Vi u.1), (29, Vp a 0)] (Xb (vs := [(0, Vi 0), (1, Vi 5), (2, Vi 30), (3, Vi 150)]) #[Vi 0, Vi 5, Vi 30, Vi 150] 3 R R R (by kernel_rfl) (fun bz a8 ck bZ aF c4 => ?_)))))
 refine I1 ?_
 have N := f
 have g := Stp.ext (ls := [[e], [b], [a], d]) aF
 have i := i.step g
 have n := aF.box n nn
 have q := q.step g
 have k := aF.box k nn
 have p := aF.box p nn
 have f := f.ev aF
 have o := o.ext aF
 have cB : SlR eI a8 (fl [[e], [b], [a], d]) (Ad bz 0) 4 ([0, 5, 30, 150]) := ro_of_box N ck bZ R R (cells_at (cs := [Vi 0, Vi 5, Vi 30, Vi 150]) (CellsOf.cons (c := [Vi 0]) R (CellsOf.cons (c := [Vi 5]) R (CellsOf.cons (c := [Vi 30]) R (CellsOf.cons (c := [Vi 150]) R CellsOf.nil)))))
 obtain ⟨B, v, m⟩ := Bs m
 have O : MS a8 ([[a]] ++ [[e], [b], d]) := f.pk [2, 0, 1, 3] _ R
 have ag : ∀ h ∈ fl ([[a]] ++ [[e], [b], d]), h ∈ fl [[e], [b], [a], d] := Pk [2, 0, 1, 3] _ R
 have E : ∀ h ∈ fl ([[a]] ++ [(fl [[e], [b], d])]), h ∈ fl [[e], [b], [a], d] := fun h v => ag h (Fu h v)
 have ac := gen_Maker_Pick_w a aa ab Q u.2 (Ad bz 0) 4 ([0, 5, 30, 150]) _ a8 (fl [[e], [b], d]) (O.fold (P := [[a]])) (i.sub E) n (cB.sub E) v
 refine Xc 7 #[] #[] _ _ R R R R ac ?_
 rintro av bG ⟨rfl, aS, ce⟩
 refine I1 ?_
 have H : MS a8 ([[a]] ++ [[e], [b], d]) := f.pk [2, 0, 1, 3] _ R
 have F : ∀ h ∈ fl ([[a]] ++ [[e], [b], d]), h ∈ fl [[e], [b], [a], d] := Pk [2, 0, 1, 3] _ R
 have ai := Stp.call (LS := [[e], [b], [a], d]) (res := []) (par := [[a]]) (R := [[e], [b], d]) aS (fun r s => F r (fl_left' (P := [[a]]) r s)) (FR.nil _) (NP.init _ _) (fun h v => F h (fl_right' (P := [[a]]) h v))
 have ah : ∀ h ∈ fl [[e], [b], [a], d], h ∈ fl ([] ++ ([[a]] ++ [[e], [b], d])) := Pk [1, 2, 0, 3] _ R
 have g := ai.res ah
 have i := i.step g
 have q := q.step g
 have k := aS.box k ((MS.outs (P := [[a]]) H 1 R) _ mem1)
 have p := aS.box p ((MS.outs (P := [[a]]) H 0 R) _ mem1)
 have f := f.ev aS
 have o := o.then aS (fun r s => .inl (by simpa using s))
 have n := ce
 refine Xu 2 [(32, Vi (i64.wrap (u.1 + B.1))), (8, Vi (i64.wrap (u.1 + B.1)))] (Xk (Cq (Cs (Xu 1 [(9, Vi 0)] (Xk (Cb ?_))))))
 have g := Stp.push (ls := [[e], [b], [a], d]) (l := Bk none) (Ev.refl [] bG) (fun _ m => by cases m) (fun _ m => by cases m)
 have i := i.step g
 have n := (Ev.refl [] _).box n nn
 have q := q.step g
 have k := (Ev.refl [] _).box k nn
 have p := (Ev.refl [] _).box p nn
 have f := f.push (l := Bk none) (Ev.refl [] _) (fun _ m => by cases m)
 have y := y.push (l := Bk none) (fun _ m => by cases m)
 have bm := OwnS.nil (eProd eI eI) 37 bG (fl [Bk none, [e], [b], [a], d])
 have O := f.pk [2, 0, 1, 3, 4] [[b], Bk none, [e], [a], d] R
 have ak := Pk (ls := [Bk none, [e], [b], [a], d]) [2, 0, 1, 3, 4] [[b], Bk none, [e], [a], d] R
 have i := i.sub ak
 have q := q.sub ak
 have bm := bm.sub ak
 have f := O
 have y := y.pk [2, 0, 1] [[b], Bk none, [e]] R
 obtain ⟨bL, bg, bO⟩ := Bs m
 obtain ⟨aZ, bg⟩ := Lo bg
 refine Cl (Lr hmx (σ := Nat × (List (Int × Int)) × Int × Option Addr × Nat) (fun aj => match aj with | (_, D, I, j, U) => [(0, Vp a 0), (1, Vl K C L), (4, Vp b 0), (6, Vp e 0), (7, Vi u.1), (8, Vi (i64.wrap (u.1 + B.1))), (9, Vi I)]) (fun aj A => match aj with | (br, D, I, j, U) => loopN (gen_Maker_Motion_L30 C u B) br (D, I) = some bL ∧ Ev [a] J A ∧ MS A [[b], Bk j, [e], [a], d] ∧ FR J.heap.size [[b], Bk j, [e]] ∧ SlR eI A (fl [[b], Bk j, [e], [a], d]) aa ab Q ∧ A.heap[a]? = some (.cells #[Vl aa Q ab, Vi B.2] 61 (0, 0)) ∧ SlR (eProd eI (eIt4)) A (fl [[b], Bk j, [e], [a], d]) K L C ∧ A.heap[b]? = some (.cells #[Vi 0, Vi 0, Z0, Vi 0, Z0] 40 (0, 0)) ∧ OwnS (eProd eI eI) 37 A (fl [[b], Bk j, [e], [a], d]) j U D ∧ A.heap[e]? = some (.cells #[Vi x.1, Vi (i64.wrap (x.1 + S.1)), Vl j D U, Vi ae.1, Z0] 40 (0, 0))) (fun aj => aj.1) (aZ, ([] : List (Int × Int)), 0, none, 0) ⟨R, R, R, R, R, R, R, T0⟩ ⟨bg, o, f, y, i, n, q, k, bm, p⟩ ?_)
 rintro ⟨aZ, D, I, j, U⟩ ay aw ⟨aX, o, f, y, i, n, q, k, w, p⟩
 rcases aZ with _ | aZ
 · exact (Lz aX).elim
 obtain ⟨da, m, aX⟩ := Bs aX
 refine Cq (Cs (Xu 2 [(33, Vi I), (34, Vl K C L)] (Xn (vs := [Vl K C L]) (Vi ((C).length : Int)) R R R (Rl tsl32 _ _ _ _ _) (Xu 1 [(36, Bd (I < ((C).length : Int)))] (Xk (Cn [(0, Vp a 0), (1, Vl K C L), (4, Vp b 0), (6, Vp e 0), (7, Vi u.1), (8, Vi (i64.wrap (u.1 + B.1))), (9, Vi I), (36, Bd (I < ((C).length : Int)))] (fun ay => ?_)))))))
 refine Ci (decide (I < ((C).length : Int))) R m (fun m => ?_) (fun m => ?_)
 · refine Ck (Kt (Cq (Cb (Cd [] [(0, false), (1, false), (2, false), (3, false), (4, false), (5, false), (6, false), (7, false), (8, false), (9, false), (10, false), (11, false), (12, false), (13, false), (14, false), (15, false), (16, false), (17, false), (18, true), (19, false), (20, true)] _ (by kernel_rfl) R ?_))))
   have g := Stp.ext (ls := [[b], Bk j, [e], [a], d]) (Ev.drew aw)
   have n := (Ev.drew aw).box n nn
   have i := i.step g
   have q := q.step g
   have k := (Ev.drew aw).box k nn
   have p := (Ev.drew aw).box p nn
   have w := w.step g (Ev.drew aw) nn2
   have f := f.ev (Ev.drew aw)
   have o := o.ext (Ev.drew aw)
   refine Yg e 0 2 (Vl j D U) R R (Rf tfld40_1 _ _) tcell38 p nn R (Xu 3 [(41, Vi u.1), (42, Vl K C L), (43, Vi I)] ?_)
   obtain ⟨Y, cI, m⟩ := Bs m
   obtain ⟨bb, cU, cq, b7, bf⟩ := Ri (Mo := []) tsl32 q cI
   obtain ⟨_, _, rfl, rfl, ⟨_, _, rfl, rfl, ⟨_, _, rfl, rfl, ⟨_, _, rfl, rfl, rfl⟩⟩⟩⟩ := bf
   refine Yi _ _ _ R cq (Yf (.pointer (some bb)) (.pointer (some (Addr.add bb 3))) R (Rf tfld35_3 _ _) (Yl (.pointer (some (Addr.add bb 3))) (Vi Y.2.2.2.1) R (reads_cell tcell3 b7 (fun _ m => by cases m) 3 _ R) ?_))
   refine Xu 4 [(47, Vi (i64.wrap (u.1 + Y.2.2.2.1))), (48, Vi (i64.wrap (u.1 + B.1))), (49, Vl K C L), (50, Vi I)] ?_
   obtain ⟨Z, cJ, m⟩ := Bs m
   obtain ⟨bc, cX, cr, b8, bf⟩ := Ri (Mo := []) tsl32 q cJ
   obtain ⟨_, _, rfl, rfl, ⟨_, _, rfl, rfl, ⟨_, _, rfl, rfl, ⟨_, _, rfl, rfl, rfl⟩⟩⟩⟩ := bf
   refine Yi _ _ _ R cr (Yf (.pointer (some bc)) (.pointer (some (Addr.add bc 3))) R (Rf tfld35_3 _ _) (Yl (.pointer (some (Addr.add bc 3))) (Vi Z.2.2.2.1) R (reads_cell tcell3 b8 (fun _ m => by cases m) 3 _ R) ?_))
   refine Xu 1 [(54, Vi (i64.wrap ((i64.wrap (u.1 + B.1)) + Z.2.2.2.1)))] (Xd (vs := [(0, Vi (i64.wrap (u.1 + Y.2.2.2.1))), (1, Vi (i64.wrap ((i64.wrap (u.1 + B.1)) + Z.2.2.2.1)))]) (.agg #[Vi (i64.wrap (u.1 + Y.2.2.2.1)), Vi (i64.wrap ((i64.wrap (u.1 + B.1)) + Z.2.2.2.1))]) R R R (fun _ _ => by kernel_rfl) ?_)
   refine Xb (vs := [(0, .agg #[Vi (i64.wrap (u.1 + Y.2.2.2.1)), Vi (i64.wrap ((i64.wrap (u.1 + B.1)) + Z.2.2.2.1))])]) #[Vi (i64.wrap (u.1 + Y.2.2.2.1)), Vi (i64.wrap ((i64.wrap (u.1 + B.1)) + Z.2.2.2.1))] 37 R R R (by kernel_rfl) (fun bA bH cl b0 ar c5 => ?_)
   refine ⟨.inr ar, ?_⟩
   have N := f
   have g := Stp.ext (ls := [[b], Bk j, [e], [a], d]) ar
   have n := ar.box n nn
   have i := i.step g
   have q := q.step g
   have k := ar.box k nn
   have p := ar.box p nn
   have w := w.step g ar nn2
   have f := f.ev ar
   have o := o.ext ar
   have cC : SlR (eProd eI eI) bH (fl [[b], Bk j, [e], [a], d]) (Ad bA 0) 1 ([(i64.wrap (u.1 + Y.2.2.2.1), i64.wrap ((i64.wrap (u.1 + B.1)) + Z.2.2.2.1))] : List (Int × Int)) := ro_of_box N cl b0 R R (cells_at (cs := [Vi (i64.wrap (u.1 + Y.2.2.2.1)), Vi (i64.wrap ((i64.wrap (u.1 + B.1)) + Z.2.2.2.1))]) (CellsOf.cons (c := [Vi (i64.wrap (u.1 + Y.2.2.2.1)), Vi (i64.wrap ((i64.wrap (u.1 + B.1)) + Z.2.2.2.1))]) ⟨[Vi (i64.wrap (u.1 + Y.2.2.2.1))], [Vi (i64.wrap ((i64.wrap (u.1 + B.1)) + Z.2.2.2.1))], R, R, R⟩ CellsOf.nil))
   have bj := Gl m
   have m := Gr m
   obtain ⟨ap, bd, bt, ct, aG, bk, cY, cG⟩ := own_appendN tel38 38 w (Mf 1 R) cC bj
   refine x_builtin (vs := [Vl j D U, Vl (Ad bA 0) (([(i64.wrap (u.1 + Y.2.2.2.1), i64.wrap ((i64.wrap (u.1 + B.1)) + Z.2.2.2.1))] : List (Int × Int))) 1]) _ bt R R R R (run_value _ _ _ _ ct) (I1 ?_)
   have g : Stp (fl [[b], Bk j, [e], [a], d]) bH (fl [[b], Bk ap, [e], [a], d]) bt := Stp.upd 1 aG R (fun r s => (bk r s).1)
   have n := aG.box n (f.apart 3 1 R R R _ mem1)
   have i := i.step g
   have q := q.step g
   have k := aG.box k (f.apart 0 1 R R R _ mem1)
   have p := aG.box p (f.apart 2 1 R R R _ mem1)
   replace f : MS bt [[b], Bk ap, [e], [a], d] := f.upd 1 aG R bk
   have bi : FR J.heap.size [[b], Bk ap, [e]] := y.upd 1 R o.size (fun r s => (bk r s).1)
   have o := o.then aG (fun r s => .inr (y.at 1 R r s))
   have y := bi
   have w := cG (fl [[b], Bk ap, [e], [a], d]) g.new
   refine Yf (Vp e 0) (Vp e 2) R (Rf tfld40_1 _ _) ?_
   obtain ⟨cO, cu, b1, aH⟩ := store_box 2 (Vl ap ((D ++ ([(i64.wrap (u.1 + Y.2.2.2.1), i64.wrap ((i64.wrap (u.1 + B.1)) + Z.2.2.2.1))] : List (Int × Int)))) bd) #[Vi x.1, Vi (i64.wrap (x.1 + S.1)), Vl ap ((D ++ ([(i64.wrap (u.1 + Y.2.2.2.1), i64.wrap ((i64.wrap (u.1 + B.1)) + Z.2.2.2.1))] : List (Int × Int)))) bd, Vi ae.1, Z0] tcell38 p R R R
   refine Ys cO _ _ R cu (I1 ?_)
   have g := Stp.ev' (ls := [[b], Bk ap, [e], [a], d]) aH (Mf 2 R)
   have n := aH.box n (f.apart 3 2 R R R _ mem1)
   have i := i.step g
   have q := q.step g
   have k := aH.box k (f.apart 0 2 R R R _ mem1)
   have w := w.step g aH (f.apart 1 2 R R R)
   have f := f.ev aH
   have o := o.then aH (fun r s => .inr (y.at 2 R r s))
   have p := b1
   refine Xe R (Kl (Kt (Cn [(0, Vp a 0), (1, Vl K C L), (4, Vp b 0), (6, Vp e 0), (7, Vi u.1), (8, Vi (i64.wrap (u.1 + B.1))), (9, Vi I)] (fun ay => ?_))))
   refine Cp (Xu 3 [(37, Vi I), (38, Vi (i64.wrap (I + 1))), (9, Vi (i64.wrap (I + 1)))] (Xe R ?_))
   obtain rfl := Sj m
   exact Kt ⟨(aZ, (D ++ ([(i64.wrap (u.1 + Y.2.2.2.1), i64.wrap ((i64.wrap (u.1 + B.1)) + Z.2.2.2.1))] : List (Int × Int))), i64.wrap (I + 1), ap, bd), ⟨R, R, R, R, R, R, R, T0⟩, ⟨aX, o, f, y, i, n, q, k, w, p⟩, Ns _⟩
 refine Ce (Ke ?_)
 obtain rfl := Sj m
 have bq := Sj aX
 subst bq
 have m := bO
 refine Ke (Ki (Kt (Cn [(0, Vp a 0), (1, Vl K C L), (4, Vp b 0), (6, Vp e 0)] (fun ay => ?_))))
 refine Cq (Cs (Xu 1 [(59, Vl K C L)] ?_))
 obtain ⟨bK, v, m⟩ := Bs m
 have ac := r20_Retarders_w K L C _ aw (fl [[b], Bk j, [e], [a], d]) (MS.fold (P := []) f) (q.sub fl1) v
 refine Xc 20 #[] #[] _ _ R R R R ac ?_
 rintro av bI ⟨rfl, az⟩
 refine I1 ?_
 have g := Stp.ext (ls := [[b], Bk j, [e], [a], d]) az
 have n := az.box n nn
 have i := i.step g
 have k := az.box k nn
 have p := az.box p nn
 have w := w.step g az nn2
 have f := f.ev az
 have o := o.ext az
 refine Xu 1 [(10, Vi bK)] (Xk (Cb ?_))
 have g := Stp.push (ls := [[b], Bk j, [e], [a], d]) (l := Bk none) (Ev.refl [] bI) (fun _ m => by cases m) (fun _ m => by cases m)
 have n := (Ev.refl [] _).box n nn
 have i := i.step g
 have k := (Ev.refl [] _).box k nn
 have p := (Ev.refl [] _).box p nn
 have w := w.step g (Ev.refl [] _) nn2
 have f := f.push (l := Bk none) (Ev.refl [] _) (fun _ m => by cases m)
 have y := y.push (l := Bk none) (fun _ m => by cases m)
 have bn := OwnS.nil eI 3 bI (fl [Bk none, [b], Bk j, [e], [a], d])
 have O := f.pk [1, 2, 0, 3, 4, 5] [[b], Bk j, Bk none, [e], [a], d] R
 have ak := Pk (ls := [Bk none, [b], Bk j, [e], [a], d]) [1, 2, 0, 3, 4, 5] [[b], Bk j, Bk none, [e], [a], d] R
 have i := i.sub ak
 have w := w.sub ak
 have bn := bn.sub ak
 have f := O
 have y := y.pk [1, 2, 0, 3] [[b], Bk j, Bk none, [e]] R
 obtain ⟨bN, bh, bQ⟩ := Bs m
 obtain ⟨a0, bh⟩ := Lo bh
 refine Cl (Lr hmx (σ := Nat × Int × (List Int) × Int × Option Addr × Nat) (fun aj => match aj with | (_, aJ, X, ad, t, af) => [(0, Vp a 0), (4, Vp b 0), (6, Vp e 0), (10, Vi ad)]) (fun aj A => match aj with | (br, aJ, X, ad, t, af) => loopN (gen_Maker_Motion_L44 Q) br (aJ, X, ad) = some bN ∧ Ev [a] J A ∧ MS A [[b], Bk j, Bk t, [e], [a], d] ∧ FR J.heap.size [[b], Bk j, Bk t, [e]] ∧ SlR eI A (fl [[b], Bk j, Bk t, [e], [a], d]) aa ab Q ∧ A.heap[a]? = some (.cells #[Vl aa Q ab, Vi aJ] 61 (0, 0)) ∧ A.heap[b]? = some (.cells #[Vi 0, Vi 0, Z0, Vi 0, Z0] 40 (0, 0)) ∧ OwnS (eProd eI eI) 37 A (fl [[b], Bk j, Bk t, [e], [a], d]) j U D ∧ OwnS eI 3 A (fl [[b], Bk j, Bk t, [e], [a], d]) t af X ∧ A.heap[e]? = some (.cells #[Vi x.1, Vi (i64.wrap (x.1 + S.1)), Vl j D U, Vi ae.1, Vl t X af] 40 (0, 0))) (fun aj => aj.1) (a0, B.2, ([] : List Int), bK, none, 0) ⟨R, R, R, R, T0⟩ ⟨bh, o, f, y, i, n, k, w, bn, p⟩ ?_)
 rintro ⟨a0, aJ, X, ad, t, af⟩ ay ax ⟨aY, o, f, y, i, n, k, w, G, p⟩
 rcases a0 with _ | a0
 · exact (Lz aY).elim
 obtain ⟨db, m, aY⟩ := Bs aY
 refine Cq (Cs (Xu 2 [(61, Vi ad), (62, Bd (ad > 0))] (Xk (Cn [(0, Vp a 0), (4, Vp b 0), (6, Vp e 0), (10, Vi ad), (62, Bd (ad > 0))] (fun ay => ?_)))))
 refine Ci (decide (ad > 0)) R m (fun m => ?_) (fun m => ?_)
 · refine Ck (Kt (Cq (Cb (Cd [a] [(0, false), (1, false), (2, false), (3, false), (4, false), (5, false), (6, true), (7, true), (8, true)] _ (by kernel_rfl) R ?_))))
   have g := Stp.ext (ls := [[b], Bk j, Bk t, [e], [a], d]) (Ev.drew ax)
   have n := (Ev.drew ax).box n nn
   have i := i.step g
   have k := (Ev.drew ax).box k nn
   have p := (Ev.drew ax).box p nn
   have w := w.step g (Ev.drew ax) nn2
   have G := G.step g (Ev.drew ax) nn2
   have f := f.ev (Ev.drew ax)
   have o := o.ext (Ev.drew ax)
   refine Yf (Vp e 0) (Vp e 4) R (Rf tfld40_3 _ _) (Yl _ (Vl t X af) R (Rb tcell22 p ((f.apart 3 4 R R R) _ mem1) 4 _ R) (Xu 1 [(67, Vp a 0)] (Xb (vs := [(0, Vi (-1)), (1, Vi 0), (2, Vi 800), (3, Vi 1200), (4, Vi 3000), (5, Vi 5000)]) #[Vi (-1), Vi 0, Vi 800, Vi 1200, Vi 3000, Vi 5000] 3 R R R (by kernel_rfl) (fun bB a9 cm b2 am c7 => ?_))))
   refine ⟨.inr (am.nil), ?_⟩
   have N := f
   have g := Stp.ext (ls := [[b], Bk j, Bk t, [e], [a], d]) am
   have n := am.box n nn
   have i := i.step g
   have k := am.box k nn
   have p := am.box p nn
   have w := w.step g am nn2
   have G := G.step g am nn2
   have f := f.ev am
   have o := o.ext am
   have cD : SlR eI a9 (fl [[b], Bk j, Bk t, [e], [a], d]) (Ad bB 0) 6 ([(-1), 0, 800, 1200, 3000, 5000]) := ro_of_box N cm b2 R R (cells_at (cs := [Vi (-1), Vi 0, Vi 800, Vi 1200, Vi 3000, Vi 5000]) (CellsOf.cons (c := [Vi (-1)]) R (CellsOf.cons (c := [Vi 0]) R (CellsOf.cons (c := [Vi 800]) R (CellsOf.cons (c := [Vi 1200]) R (CellsOf.cons (c := [Vi 3000]) R (CellsOf.cons (c := [Vi 5000]) R CellsOf.nil)))))))
   obtain ⟨al, v, m⟩ := Bs m
   have O : MS a9 ([[a]] ++ [[b], Bk j, Bk t, [e], d]) := f.pk [4, 0, 1, 2, 3, 5] _ R
   have ag : ∀ h ∈ fl ([[a]] ++ [[b], Bk j, Bk t, [e], d]), h ∈ fl [[b], Bk j, Bk t, [e], [a], d] := Pk [4, 0, 1, 2, 3, 5] _ R
   have E : ∀ h ∈ fl ([[a]] ++ [(fl [[b], Bk j, Bk t, [e], d])]), h ∈ fl [[b], Bk j, Bk t, [e], [a], d] := fun h v => ag h (Fu h v)
   have ac := gen_Maker_Pick_w a aa ab Q aJ (Ad bB 0) 6 ([(-1), 0, 800, 1200, 3000, 5000]) _ a9 (fl [[b], Bk j, Bk t, [e], d]) (O.fold (P := [[a]])) (i.sub E) n (cD.sub E) v
   refine Xc 7 #[] #[] _ _ R R R R ac ?_
   rintro av df ⟨rfl, au, cf⟩
   refine ⟨.inr au, ?_⟩
   have H : MS a9 ([[a]] ++ [[b], Bk j, Bk t, [e], d]) := f.pk [4, 0, 1, 2, 3, 5] _ R
   have F : ∀ h ∈ fl ([[a]] ++ [[b], Bk j, Bk t, [e], d]), h ∈ fl [[b], Bk j, Bk t, [e], [a], d] := Pk [4, 0, 1, 2, 3, 5] _ R
   have ai := Stp.call (LS := [[b], Bk j, Bk t, [e], [a], d]) (res := []) (par := [[a]]) (R := [[b], Bk j, Bk t, [e], d]) au (fun r s => F r (fl_left' (P := [[a]]) r s)) (FR.nil _) (NP.init _ _) (fun h v => F h (fl_right' (P := [[a]]) h v))
   have ah : ∀ h ∈ fl [[b], Bk j, Bk t, [e], [a], d], h ∈ fl ([] ++ ([[a]] ++ [[b], Bk j, Bk t, [e], d])) := Pk [1, 2, 3, 4, 0, 5] _ R
   have g := ai.res ah
   have i := i.step g
   have k := au.box k ((MS.outs (P := [[a]]) H 0 R) _ mem1)
   have p := au.box p ((MS.outs (P := [[a]]) H 3 R) _ mem1)
   have w := w.step g au (MS.outs (P := [[a]]) H 1 R)
   have G := G.step g au (MS.outs (P := [[a]]) H 2 R)
   have f := f.ev au
   have o := o.then au (fun r s => .inl (by simpa using s))
   have n := cf
   refine Xb (vs := [(0, Vi al.1)]) #[Vi al.1] 3 R R R (by kernel_rfl) (fun bC bJ cn b3 an c8 => ?_)
   refine ⟨.inr (an.nil), ?_⟩
   have N := f
   have g := Stp.ext (ls := [[b], Bk j, Bk t, [e], [a], d]) an
   have n := an.box n nn
   have i := i.step g
   have k := an.box k nn
   have p := an.box p nn
   have w := w.step g an nn2
   have G := G.step g an nn2
   have f := f.ev an
   have o := o.ext an
   have cE : SlR eI bJ (fl [[b], Bk j, Bk t, [e], [a], d]) (Ad bC 0) 1 ([al.1]) := ro_of_box N cn b3 R R (cells_at (cs := [Vi al.1]) (CellsOf.cons (c := [Vi al.1]) R CellsOf.nil))
   have bj := Gl m
   have m := Gr m
   obtain ⟨aq, be, bu, cv, aA, bl, cZ, cH⟩ := own_appendN tel22 22 G (Mf 2 R) cE bj
   refine x_builtin (vs := [Vl t X af, Vl (Ad bC 0) ([al.1]) 1]) _ bu R R R R (run_value _ _ _ _ cv) (I1 ?_)
   have g : Stp (fl [[b], Bk j, Bk t, [e], [a], d]) bJ (fl [[b], Bk j, Bk aq, [e], [a], d]) bu := Stp.upd 2 aA R (fun r s => (bl r s).1)
   have n := aA.box n (f.apart 4 2 R R R _ mem1)
   have i := i.step g
   have k := aA.box k (f.apart 0 2 R R R _ mem1)
   have p := aA.box p (f.apart 3 2 R R R _ mem1)
   have w := w.step g aA (f.apart 1 2 R R R)
   replace f : MS bu [[b], Bk j, Bk aq, [e], [a], d] := f.upd 2 aA R bl
   have bi : FR J.heap.size [[b], Bk j, Bk aq, [e]] := y.upd 2 R o.size (fun r s => (bl r s).1)
   have o := o.then aA (fun r s => .inr (y.at 2 R r s))
   have y := bi
   have G := cH (fl [[b], Bk j, Bk aq, [e], [a], d]) g.new
   refine Yf (Vp e 0) (Vp e 4) R (Rf tfld40_3 _ _) ?_
   obtain ⟨cQ, cw, b4, aB⟩ := store_box 4 (Vl aq ((X ++ [al.1])) be) #[Vi x.1, Vi (i64.wrap (x.1 + S.1)), Vl j D U, Vi ae.1, Vl aq ((X ++ [al.1])) be] tcell22 p R R R
   refine Ys cQ _ _ R cw (I1 ?_)
   have g := Stp.ev' (ls := [[b], Bk j, Bk aq, [e], [a], d]) aB (Mf 3 R)
   have n := aB.box n (f.apart 4 3 R R R _ mem1)
   have i := i.step g
   have k := aB.box k (f.apart 0 3 R R R _ mem1)
   have w := w.step g aB (f.apart 1 3 R R R)
   have G := G.step g aB (f.apart 2 3 R R R)
   have f := f.ev aB
   have o := o.then aB (fun r s => .inr (y.at 3 R r s))
   have p := b4
   refine Xe R (Kl (Kt (Cp (Xu 3 [(63, Vi ad), (64, Vi (i64.wrap (ad - 1))), (10, Vi (i64.wrap (ad - 1)))] (Xe R ?_)))))
   obtain rfl := Sj m
   exact Kt ⟨(a0, al.2, (X ++ [al.1]), i64.wrap (ad - 1), aq, be), ⟨R, R, R, R, T0⟩, ⟨aY, o, f, y, i, n, k, w, G, p⟩, Ns _⟩
 refine Ce (Ke ?_)
 obtain rfl := Sj m
 have bq := Sj aY
 subst bq
 have m := bQ
 refine Ke (Ki (Kt (Cn [(4, Vp b 0), (6, Vp e 0)] (fun ay => ?_))))
 refine Cs (Yl _ _ R (Ra 0 [Vi x.1, Vi (i64.wrap (x.1 + S.1)), Vl j D U, Vi ae.1, Vl t X af] tagg40 p nn R) ?_)
 obtain ⟨cS, cx, b5, aI⟩ := Sa [Vi x.1, Vi (i64.wrap (x.1 + S.1)), Vl j D U, Vi ae.1, Vl t X af] tagg40 k R R R
 refine Ys cS _ _ R cx (I1 ?_)
 have g := Stp.ev' (ls := [[b], Bk j, Bk t, [e], [a], d]) aI (Mf 0 R)
 have n := aI.box n (f.apart 4 0 R R R _ mem1)
 have w := w.step g aI (f.apart 1 0 R R R)
 have G := G.step g aI (f.apart 2 0 R R R)
 have f := f.ev aI
 have o := o.then aI (fun r s => .inr (y.at 0 R r s))
 have k := b5
 refine Xk (Cr (Rr (Rv [.agg #[Vi x.1, Vi (i64.wrap (x.1 + S.1)), Vl j D U, Vi ae.1, Vl t X af]] ⟨⟨_, R, Lv (Ra (Mo := []) 0 [Vi x.1, Vi (i64.wrap (x.1 + S.1)), Vl j D U, Vi ae.1, Vl t X af] tagg40 k nn R)⟩, T0⟩ ?_)))
 obtain rfl := Sj m
 have ca := f.pk [1, 2, 4, 5] [Bk j, Bk t, [a], d] R
 have ak := Pk (ls := [[b], Bk j, Bk t, [e], [a], d]) [1, 2, 4, 5] [Bk j, Bk t, [a], d] R
 have b9 := y.pk [1, 2] [Bk j, Bk t] R
 exact ⟨j, U, t, af, R, o, n, ca, b9, w.sub ak, G.sub ak⟩
def gen_Maker_From (c : List Int) (d : Int) (a : Int) (e : Int) : Option (Int × Int) :=
((gen_Maker_Next c d (i64.wrap ((i64.wrap (e - a)) + 1))).bind fun b =>
some (i64.wrap (a + b.1), b.2))
theorem gen_Maker_From_w (a h i g n b e o c d) (v : MS c [[a], d]) (y : SlR eI c (fl [[a], d]) h i g) (k : c.heap[a]? = some (.cells #[Vl h g i, Vi n] 61 (0, 0))) (j : gen_Maker_From g n b e = some o) : CallVC Tryz.prog 34 [Vp a 0, Vi b, Vi e] c fun q r => q = Vi o.1 ∧ Ev [a] c r ∧ r.heap[a]? = some (.cells #[Vl h g i, Vi o.2] 61 (0, 0)) := by
 refine Cv hmx Tryz.func34 (by kernel_rfl) R (rs := [.tmp 6]) R (by kernel_rfl) (args := [Vp a 0, Vi b, Vi e]) R ?_
 have l : Ev [a] c c := Ev.refl _ _
 refine Cs (Xu 1 [(6, Vi 0)] (Xk (Cs (Xu 6 [(7, Vi b), (8, Vp a 0), (9, Vi e), (10, Vi b), (11, Vi (i64.wrap (e - b))), (12, Vi (i64.wrap ((i64.wrap (e - b)) + 1)))] ?_))))
 obtain ⟨p, m, j⟩ := Bs j
 have x : MS c ([[a]] ++ [d]) := v.pk [0, 1] _ R
 have A : ∀ f ∈ fl ([[a]] ++ [d]), f ∈ fl [[a], d] := Pk [0, 1] _ R
 have z : ∀ f ∈ fl ([[a]] ++ [(fl [d])]), f ∈ fl [[a], d] := fun f m => A f (Fu f m)
 have t := gen_Maker_Next_w a h i g n (i64.wrap ((i64.wrap (e - b)) + 1)) _ c (fl [d]) (x.fold (P := [[a]])) (y.sub z) k m
 refine Xc 5 #[] #[] _ _ R R R R t ?_
 rintro q C ⟨rfl, u, w⟩
 refine I1 ?_
 have l := l.then u (fun B s => .inl (by simpa using s))
 have k := w
 refine Xu 2 [(14, Vi (i64.wrap (b + p.1))), (6, Vi (i64.wrap (b + p.1)))] (Xk (Cr (Rr (Rv [Vi (i64.wrap (b + p.1))] ⟨R, T0⟩ ?_))))
 obtain rfl := Sj j
 exact ⟨R, l, k⟩
def gen_Maker_Run_J35 (a : List Int) (d : Int) (c : Int) (b : Int) : Option (Step (Int × (List Int) × Int) (Int × (List Int))) :=
(if a.length + ([b]).length ≤ 4294967296 then
some (.next (c, (a ++ [b]), i64.wrap (d + 1)))
else none)
def gen_Maker_Run_L29 (h : List Int) (f : Int) (g : List Int) (i : Int × (List Int) × Int) : Option (Step (Int × (List Int) × Int) (Int × (List Int))) :=
match i with
| (e, d, b) =>
(if (decide (b < ((g).length : Int))) = true then
((idx g b).bind fun c =>
(if (decide (c ≥ 0)) = true then
((gen_Maker_From h e (i64.wrap (c - f)) (i64.wrap (c + f))).bind fun a =>
gen_Maker_Run_J35 d b a.2 (if (if a.1 < 20000 then a.1 else 20000) > 0 then (if a.1 < 20000 then a.1 else 20000) else 0))
else
gen_Maker_Run_J35 d b e c))
else
some (.done (e, d)))
def gen_Maker_Run_L15 (f : List Int) (c : List (Int × Int)) (g : Int × (List Int) × Int) : Option (Step (Int × (List Int) × Int) (Int × (List Int))) :=
match g with
| (e, b, a) =>
(if (decide (a < ((c).length : Int))) = true then
((idx c a).bind fun h =>
((idx c a).bind fun i =>
((gen_Maker_From f e h.1 i.2).bind fun d =>
(if b.length + ([d.1]).length ≤ 4294967296 then
some (.next (d.2, (b ++ [d.1]), i64.wrap (a + 1)))
else none))))
else
some (.done (e, b)))
def gen_Maker_Run (b : List Int) (h : Int) (i : Int) (j : Int) (k : List (Int × Int)) (l : Int) (m : List Int) : Option ((Int × (List Int) × (List Int)) × Int) :=
((gen_Maker_From b h i j).bind fun c =>
((loop (gen_Maker_Run_L15 b k) (c.2, ([] : List Int), 0)).bind fun a => match a with
| (f, d) => ((loop (gen_Maker_Run_L29 b l m) (f, ([] : List Int), 0)).bind fun a => match a with
| (g, e) => some ((c.1, d, e), g))))
theorem gen_Maker_Run_w (a af ag N bm am an Q S B U Y aa D aA E f) (h : MS E [[a], f]) (n : SlR eI E (fl [[a], f]) af ag N) (r : E.heap[a]? = some (.cells #[Vl af N ag, Vi bm] 61 (0, 0))) (o : SlR (eProd eI eI) E (fl [[a], f]) Q S B) (p : SlR eI E (fl [[a], f]) Y aa D) (j : gen_Maker_Run N bm am an B U D = some aA) : CallVC Tryz.prog 16 [Vp a 0, .agg #[Vi am, Vi an, Vl Q B S, Vi U, Vl Y D aa]] E fun a2 u => ∃ aB bt aC bu, a2 = .agg #[Vi aA.1.1, Vl aB aA.1.2.1 bt, Vl aC aA.1.2.2 bu] ∧ Ev [a] E u ∧ u.heap[a]? = some (.cells #[Vl af N ag, Vi aA.2] 61 (0, 0)) ∧ MS u [Bk aB, Bk aC, [a], f] ∧ FR E.heap.size [Bk aB, Bk aC] ∧ OwnS eI 3 u (fl [Bk aB, Bk aC, [a], f]) aB bt aA.1.2.1 ∧ OwnS eI 3 u (fl [Bk aB, Bk aC, [a], f]) aC bu aA.1.2.2 := by
 refine Cv hmx Tryz.func16 (by kernel_rfl) R (rs := [.cell 4 55]) R (by kernel_rfl) (args := [Vp a 0, .agg #[Vi am, Vi an, Vl Q B S, Vi U, Vl Y D aa]]) R ?_
 have q : Ev [a] E E := Ev.refl _ _
 have w : FR E.heap.size [] := FR.nil _
 refine Cs (Yb _ R (fun b cl bi k a1 cw => ?_))
 replace k : cl.heap[b]? = some (.cells #[Vi am, Vi an, Vl Q B S, Vi U, Vl Y D aa] 40 (0, 0)) := k
 refine I1 ?_
 have i := Stp.box (ls := [[a], f]) a1 bi
 have n := n.step i
 have r := a1.box r nn
 have o := o.step i
 have p := p.step i
 have h := h.box a1 bi k
 have w := w.box q.size bi
 have q := q.ext a1
 refine Xa (z := .agg #[Vi 0, Z0, Z0]) R R (by kernel_rfl) (fun d a3 bj s aN cx => ?_)
 replace s : a3.heap[d]? = some (.cells #[Vi 0, Z0, Z0] 55 (0, 0)) := s
 refine I1 ?_
 have i := Stp.box (ls := [[b], [a], f]) aN bj
 have n := n.step i
 have r := aN.box r nn
 have o := o.step i
 have p := p.step i
 have k := aN.box k nn
 have h := h.box aN bj s
 have w := w.box q.size bj
 have q := q.ext aN
 refine Xk (Cs (Xu 1 [(9, Vp a 0)] (Yf (Vp b 0) (Vp b 0) R (Rf tfld40_0 _ _) (Yg b 0 0 (Vi am) R R (Rf tfld37_0 _ _) tcell3 k nn R (Yf (Vp b 0) (Vp b 0) R (Rf tfld40_0 _ _) (Yg b 0 1 (Vi an) R R (Rf tfld37_1 _ _) tcell3 k nn R ?_))))))
 obtain ⟨ae, H, j⟩ := Bs j
 have al : MS a3 ([[a]] ++ [[d], [b], f]) := h.pk [2, 0, 1, 3] _ R
 have aU : ∀ t ∈ fl ([[a]] ++ [[d], [b], f]), t ∈ fl [[d], [b], [a], f] := Pk [2, 0, 1, 3] _ R
 have aS : ∀ t ∈ fl ([[a]] ++ [(fl [[d], [b], f])]), t ∈ fl [[d], [b], [a], f] := fun t H => aU t (Fu t H)
 have aK := gen_Maker_From_w a af ag N bm am an _ a3 (fl [[d], [b], f]) (al.fold (P := [[a]])) (n.sub aS) r H
 refine Xc 34 #[] #[] _ _ R R R R aK ?_
 rintro a2 cz ⟨rfl, aL, bS⟩
 refine I1 ?_
 have ab : MS a3 ([[a]] ++ [[d], [b], f]) := h.pk [2, 0, 1, 3] _ R
 have ax : ∀ t ∈ fl ([[a]] ++ [[d], [b], f]), t ∈ fl [[d], [b], [a], f] := Pk [2, 0, 1, 3] _ R
 have aY := Stp.call (LS := [[d], [b], [a], f]) (res := []) (par := [[a]]) (R := [[d], [b], f]) aL (fun y A => ax y (fl_left' (P := [[a]]) y A)) (FR.nil _) (NP.init _ _) (fun t H => ax t (fl_right' (P := [[a]]) t H))
 have aX : ∀ t ∈ fl [[d], [b], [a], f], t ∈ fl ([] ++ ([[a]] ++ [[d], [b], f])) := Pk [1, 2, 0, 3] _ R
 have i := aY.res aX
 have n := n.step i
 have o := o.step i
 have p := p.step i
 have k := aL.box k ((MS.outs (P := [[a]]) ab 1 R) _ mem1)
 have s := aL.box s ((MS.outs (P := [[a]]) ab 0 R) _ mem1)
 have h := h.ev aL
 have q := q.then aL (fun y A => .inl (by simpa using A))
 have r := bS
 refine Xd (vs := [(0, Vi ae.1)]) (.agg #[Vi ae.1, Z0, Z0]) R R R (fun _ _ => by kernel_rfl) ?_
 refine Xa (z := .agg #[Vi 0, Z0, Z0]) R R (by kernel_rfl) (fun e ch bh v aF ct => ?_)
 replace v : ch.heap[e]? = some (.cells #[Vi 0, Z0, Z0] 55 (0, 0)) := v
 refine I1 ?_
 have i := Stp.box (ls := [[d], [b], [a], f]) aF bh
 have n := n.step i
 have r := aF.box r nn
 have o := o.step i
 have p := p.step i
 have k := aF.box k nn
 have s := aF.box s nn
 have h := h.box aF bh v
 have w := w.box q.size bh
 have q := q.ext aF
 obtain ⟨bn, b0, bE, aG⟩ := Sa [Vi ae.1, Z0, Z0] tagg55 v R R R
 refine Ys bn _ _ R b0 (I1 ?_)
 have i := Stp.ev' (ls := [[e], [d], [b], [a], f]) aG (Mf 0 R)
 have n := n.step i
 have r := aG.box r (h.apart 3 0 R R R _ mem1)
 have o := o.step i
 have p := p.step i
 have k := aG.box k (h.apart 2 0 R R R _ mem1)
 have s := aG.box s (h.apart 1 0 R R R _ mem1)
 have h := h.ev aG
 have q := q.then aG (fun y A => .inr (w.at 0 R y A))
 have v := bE
 refine Xk (Cq (Cs (Xu 1 [(6, Vi 0)] (Xk (Cb ?_)))))
 have i := Stp.push (ls := [[e], [d], [b], [a], f]) (l := Bk none) (Ev.refl [] bn) (fun _ j => by cases j) (fun _ j => by cases j)
 have n := n.step i
 have r := (Ev.refl [] _).box r nn
 have o := o.step i
 have p := p.step i
 have k := (Ev.refl [] _).box k nn
 have s := (Ev.refl [] _).box s nn
 have v := (Ev.refl [] _).box v nn
 have h := h.push (l := Bk none) (Ev.refl [] _) (fun _ j => by cases j)
 have w := w.push (l := Bk none) (fun _ j => by cases j)
 have bf := OwnS.nil eI 3 bn (fl [Bk none, [e], [d], [b], [a], f])
 have al := h.pk [3, 2, 0, 1, 4, 5] [[b], [d], Bk none, [e], [a], f] R
 have ac := Pk (ls := [Bk none, [e], [d], [b], [a], f]) [3, 2, 0, 1, 4, 5] [[b], [d], Bk none, [e], [a], f] R
 have n := n.sub ac
 have o := o.sub ac
 have p := p.sub ac
 have bf := bf.sub ac
 have h := al
 have w := w.pk [3, 2, 0, 1] [[b], [d], Bk none, [e]] R
 obtain ⟨bA, a8, bC⟩ := Bs j
 obtain ⟨aZ, a8⟩ := Lo a8
 refine Cl (Lr hmx (σ := Nat × Int × (List Int) × Int × Option Addr × Nat) (fun O => match O with | (_, aD, C, K, g, J) => [(0, Vp a 0), (3, Vp b 0), (4, Vp d 0), (5, Vp e 0), (6, Vi K)]) (fun O u => match O with | (bl, aD, C, K, g, J) => loopN (gen_Maker_Run_L15 N B) bl (aD, C, K) = some bA ∧ Ev [a] E u ∧ MS u [[b], [d], Bk g, [e], [a], f] ∧ FR E.heap.size [[b], [d], Bk g, [e]] ∧ SlR eI u (fl [[b], [d], Bk g, [e], [a], f]) af ag N ∧ u.heap[a]? = some (.cells #[Vl af N ag, Vi aD] 61 (0, 0)) ∧ SlR (eProd eI eI) u (fl [[b], [d], Bk g, [e], [a], f]) Q S B ∧ SlR eI u (fl [[b], [d], Bk g, [e], [a], f]) Y aa D ∧ u.heap[b]? = some (.cells #[Vi am, Vi an, Vl Q B S, Vi U, Vl Y D aa] 40 (0, 0)) ∧ u.heap[d]? = some (.cells #[Vi 0, Z0, Z0] 55 (0, 0)) ∧ OwnS eI 3 u (fl [[b], [d], Bk g, [e], [a], f]) g J C ∧ u.heap[e]? = some (.cells #[Vi ae.1, Vl g C J, Z0] 55 (0, 0))) (fun O => O.1) (aZ, ae.2, ([] : List Int), 0, none, 0) ⟨R, R, R, R, R, T0⟩ ⟨a8, q, h, w, n, r, o, p, k, s, bf, v⟩ ?_)
 rintro ⟨aZ, aD, C, K, g, J⟩ ao ad ⟨aO, q, h, w, n, r, o, p, k, s, x, v⟩
 rcases aZ with _ | aZ
 · exact (Lz aO).elim
 obtain ⟨cy, j, aO⟩ := Bs aO
 refine Cq (Cs (Xu 1 [(18, Vi K)] (Yg b 0 2 (Vl Q B S) R R (Rf tfld40_1 _ _) tcell38 k nn R (Xn (vs := [Vl Q B S]) (Vi ((B).length : Int)) R R R (Rl tsl38 _ _ _ _ _) (Xu 1 [(22, Bd (K < ((B).length : Int)))] (Xk (Cn [(0, Vp a 0), (3, Vp b 0), (4, Vp d 0), (5, Vp e 0), (6, Vi K), (22, Bd (K < ((B).length : Int)))] (fun ao => ?_))))))))
 refine Ci (decide (K < ((B).length : Int))) R j (fun j => ?_) (fun j => ?_)
 · refine Ck (Kt (Cq (Cb (Cd [a] [(0, false), (1, false), (2, true), (3, true), (4, true), (5, true), (6, true), (7, true), (8, true), (9, true), (10, true), (11, true), (12, true), (13, true), (14, true), (15, false), (16, false), (17, true), (18, true), (19, true)] _ (by kernel_rfl) R ?_))))
   have i := Stp.ext (ls := [[b], [d], Bk g, [e], [a], f]) (Ev.drew ad)
   have r := (Ev.drew ad).box r nn
   have n := n.step i
   have k := (Ev.drew ad).box k nn
   have o := o.step i
   have p := p.step i
   have s := (Ev.drew ad).box s nn
   have v := (Ev.drew ad).box v nn
   have x := x.step i (Ev.drew ad) nn2
   have h := h.ev (Ev.drew ad)
   have q := q.ext (Ev.drew ad)
   refine Yf (Vp e 0) (Vp e 1) R (Rf tfld55_1 _ _) (Yl _ (Vl g C J) R (Rb tcell22 v ((h.apart 3 4 R R R) _ mem1) 1 _ R) (Xu 1 [(27, Vp a 0)] (Yg b 0 2 (Vl Q B S) R R (Rf tfld40_1 _ _) tcell38 k nn R (Xu 1 [(30, Vi K)] ?_))))
   obtain ⟨bx, cd, j⟩ := Bs j
   obtain ⟨a4, cn, b1, bK, aJ⟩ := Ri (Mo := []) tsl38 o cd
   obtain ⟨_, _, rfl, rfl, rfl⟩ := aJ
   refine Yi _ _ _ R b1 (Yf (.pointer (some a4)) (.pointer (some (Addr.add a4 0))) R (Rf tfld37_0 _ _) (Yl (.pointer (some (Addr.add a4 0))) (Vi bx.1) R (reads_cell tcell3 bK (fun _ j => by cases j) 0 _ R) ?_))
   refine Yg b 0 2 (Vl Q B S) R R (Rf tfld40_1 _ _) tcell38 k nn R (Xu 1 [(36, Vi K)] ?_)
   obtain ⟨bz, ce, j⟩ := Bs j
   obtain ⟨a5, co, b2, bL, aJ⟩ := Ri (Mo := []) tsl38 o ce
   obtain ⟨_, _, rfl, rfl, rfl⟩ := aJ
   refine Yi _ _ _ R b2 (Yf (.pointer (some a5)) (.pointer (some (Addr.add a5 1))) R (Rf tfld37_1 _ _) (Yl (.pointer (some (Addr.add a5 1))) (Vi bz.2) R (reads_cell tcell3 bL (fun _ j => by cases j) 1 _ R) ?_))
   obtain ⟨ai, H, j⟩ := Bs j
   have al : MS (ad).drew ([[a]] ++ [[b], [d], Bk g, [e], f]) := h.pk [4, 0, 1, 2, 3, 5] _ R
   have aU : ∀ t ∈ fl ([[a]] ++ [[b], [d], Bk g, [e], f]), t ∈ fl [[b], [d], Bk g, [e], [a], f] := Pk [4, 0, 1, 2, 3, 5] _ R
   have aS : ∀ t ∈ fl ([[a]] ++ [(fl [[b], [d], Bk g, [e], f])]), t ∈ fl [[b], [d], Bk g, [e], [a], f] := fun t H => aU t (Fu t H)
   have aK := gen_Maker_From_w a af ag N aD bx.1 bz.2 _ (ad).drew (fl [[b], [d], Bk g, [e], f]) (al.fold (P := [[a]])) (n.sub aS) r H
   refine Xc 34 #[] #[] _ _ R R R R aK ?_
   rintro a2 cA ⟨rfl, ar, bU⟩
   refine ⟨.inr ar, ?_⟩
   have ab : MS (ad).drew ([[a]] ++ [[b], [d], Bk g, [e], f]) := h.pk [4, 0, 1, 2, 3, 5] _ R
   have ax : ∀ t ∈ fl ([[a]] ++ [[b], [d], Bk g, [e], f]), t ∈ fl [[b], [d], Bk g, [e], [a], f] := Pk [4, 0, 1, 2, 3, 5] _ R
   have aY := Stp.call (LS := [[b], [d], Bk g, [e], [a], f]) (res := []) (par := [[a]]) (R := [[b], [d], Bk g, [e], f]) ar (fun y A => ax y (fl_left' (P := [[a]]) y A)) (FR.nil _) (NP.init _ _) (fun t H => ax t (fl_right' (P := [[a]]) t H))
   have aX : ∀ t ∈ fl [[b], [d], Bk g, [e], [a], f], t ∈ fl ([] ++ ([[a]] ++ [[b], [d], Bk g, [e], f])) := Pk [1, 2, 3, 4, 0, 5] _ R
   have i := aY.res aX
   have n := n.step i
   have k := ar.box k ((MS.outs (P := [[a]]) ab 0 R) _ mem1)
   have o := o.step i
   have p := p.step i
   have s := ar.box s ((MS.outs (P := [[a]]) ab 1 R) _ mem1)
   have v := ar.box v ((MS.outs (P := [[a]]) ab 3 R) _ mem1)
   have x := x.step i ar (MS.outs (P := [[a]]) ab 2 R)
   have h := h.ev ar
   have q := q.then ar (fun y A => .inl (by simpa using A))
   have r := bU
   refine Xb (vs := [(0, Vi ai.1)]) #[Vi ai.1] 3 R R R (by kernel_rfl) (fun br bv bY bF aj cu => ?_)
   refine ⟨.inr (aj.nil), ?_⟩
   have bc := h
   have i := Stp.ext (ls := [[b], [d], Bk g, [e], [a], f]) aj
   have r := aj.box r nn
   have n := n.step i
   have k := aj.box k nn
   have o := o.step i
   have p := p.step i
   have s := aj.box s nn
   have v := aj.box v nn
   have x := x.step i aj nn2
   have h := h.ev aj
   have q := q.ext aj
   have b9 : SlR eI bv (fl [[b], [d], Bk g, [e], [a], f]) (Ad br 0) 1 ([ai.1]) := ro_of_box bc bY bF R R (cells_at (cs := [Vi ai.1]) (CellsOf.cons (c := [Vi ai.1]) R CellsOf.nil))
   have bb := Gl j
   have j := Gr j
   obtain ⟨ap, a6, bo, b3, ay, bd, cq, cb⟩ := own_appendN tel22 22 x (Mf 2 R) b9 bb
   refine x_builtin (vs := [Vl g C J, Vl (Ad br 0) ([ai.1]) 1]) _ bo R R R R (run_value _ _ _ _ b3) (I1 ?_)
   have i : Stp (fl [[b], [d], Bk g, [e], [a], f]) bv (fl [[b], [d], Bk ap, [e], [a], f]) bo := Stp.upd 2 ay R (fun y A => (bd y A).1)
   have r := ay.box r (h.apart 4 2 R R R _ mem1)
   have n := n.step i
   have k := ay.box k (h.apart 0 2 R R R _ mem1)
   have o := o.step i
   have p := p.step i
   have s := ay.box s (h.apart 1 2 R R R _ mem1)
   have v := ay.box v (h.apart 3 2 R R R _ mem1)
   replace h : MS bo [[b], [d], Bk ap, [e], [a], f] := h.upd 2 ay R bd
   have ba : FR E.heap.size [[b], [d], Bk ap, [e]] := w.upd 2 R q.size (fun y A => (bd y A).1)
   have q := q.then ay (fun y A => .inr (w.at 2 R y A))
   have w := ba
   have x := cb (fl [[b], [d], Bk ap, [e], [a], f]) i.new
   refine Yf (Vp e 0) (Vp e 1) R (Rf tfld55_1 _ _) ?_
   obtain ⟨ci, b4, bG, az⟩ := store_box 1 (Vl ap ((C ++ [ai.1])) a6) #[Vi ae.1, Vl ap ((C ++ [ai.1])) a6, Z0] tcell22 v R R R
   refine Ys ci _ _ R b4 (I1 ?_)
   have i := Stp.ev' (ls := [[b], [d], Bk ap, [e], [a], f]) az (Mf 3 R)
   have r := az.box r (h.apart 4 3 R R R _ mem1)
   have n := n.step i
   have k := az.box k (h.apart 0 3 R R R _ mem1)
   have o := o.step i
   have p := p.step i
   have s := az.box s (h.apart 1 3 R R R _ mem1)
   have x := x.step i az (h.apart 2 3 R R R)
   have h := h.ev az
   have q := q.then az (fun y A => .inr (w.at 3 R y A))
   have v := bG
   refine Xe R (Kl (Kt (Cn [(0, Vp a 0), (3, Vp b 0), (4, Vp d 0), (5, Vp e 0), (6, Vi K)] (fun ao => ?_))))
   refine Cp (Xu 3 [(23, Vi K), (24, Vi (i64.wrap (K + 1))), (6, Vi (i64.wrap (K + 1)))] (Xe R ?_))
   obtain rfl := Sj j
   exact Kt ⟨(aZ, ai.2, (C ++ [ai.1]), i64.wrap (K + 1), ap, a6), ⟨R, R, R, R, R, T0⟩, ⟨aO, q, h, w, n, r, o, p, k, s, x, v⟩, Ns _⟩
 refine Ce (Ke ?_)
 obtain rfl := Sj j
 have bk := Sj aO
 subst bk
 have j := bC
 refine Ke (Ki (Kt (Cn [(0, Vp a 0), (3, Vp b 0), (4, Vp d 0), (5, Vp e 0)] (fun ao => ?_))))
 refine Cq (Cs (Xu 1 [(7, Vi 0)] (Xk (Cb ?_))))
 have i := Stp.push (ls := [[b], [d], Bk g, [e], [a], f]) (l := Bk none) (Ev.refl [] ad) (fun _ j => by cases j) (fun _ j => by cases j)
 have r := (Ev.refl [] _).box r nn
 have n := n.step i
 have k := (Ev.refl [] _).box k nn
 have o := o.step i
 have p := p.step i
 have s := (Ev.refl [] _).box s nn
 have v := (Ev.refl [] _).box v nn
 have x := x.step i (Ev.refl [] _) nn2
 have h := h.push (l := Bk none) (Ev.refl [] _) (fun _ j => by cases j)
 have w := w.push (l := Bk none) (fun _ j => by cases j)
 have bg := OwnS.nil eI 3 ad (fl [Bk none, [b], [d], Bk g, [e], [a], f])
 have al := h.pk [1, 2, 3, 0, 4, 5, 6] [[b], [d], Bk g, Bk none, [e], [a], f] R
 have ac := Pk (ls := [Bk none, [b], [d], Bk g, [e], [a], f]) [1, 2, 3, 0, 4, 5, 6] [[b], [d], Bk g, Bk none, [e], [a], f] R
 have n := n.sub ac
 have o := o.sub ac
 have p := p.sub ac
 have x := x.sub ac
 have bg := bg.sub ac
 have h := al
 have w := w.pk [1, 2, 3, 0, 4] [[b], [d], Bk g, Bk none, [e]] R
 obtain ⟨bB, a9, bD⟩ := Bs j
 obtain ⟨a0, a9⟩ := Lo a9
 refine Cl (Lr hmx (σ := Nat × Int × (List Int) × Int × Option Addr × Nat) (fun O => match O with | (_, aE, G, I, m, Z) => [(0, Vp a 0), (3, Vp b 0), (4, Vp d 0), (5, Vp e 0), (7, Vi I)]) (fun O u => match O with | (bl, aE, G, I, m, Z) => loopN (gen_Maker_Run_L29 N U D) bl (aE, G, I) = some bB ∧ Ev [a] E u ∧ MS u [[b], [d], Bk g, Bk m, [e], [a], f] ∧ FR E.heap.size [[b], [d], Bk g, Bk m, [e]] ∧ SlR eI u (fl [[b], [d], Bk g, Bk m, [e], [a], f]) af ag N ∧ u.heap[a]? = some (.cells #[Vl af N ag, Vi aE] 61 (0, 0)) ∧ SlR (eProd eI eI) u (fl [[b], [d], Bk g, Bk m, [e], [a], f]) Q S B ∧ SlR eI u (fl [[b], [d], Bk g, Bk m, [e], [a], f]) Y aa D ∧ u.heap[b]? = some (.cells #[Vi am, Vi an, Vl Q B S, Vi U, Vl Y D aa] 40 (0, 0)) ∧ u.heap[d]? = some (.cells #[Vi 0, Z0, Z0] 55 (0, 0)) ∧ OwnS eI 3 u (fl [[b], [d], Bk g, Bk m, [e], [a], f]) g J C ∧ OwnS eI 3 u (fl [[b], [d], Bk g, Bk m, [e], [a], f]) m Z G ∧ u.heap[e]? = some (.cells #[Vi ae.1, Vl g C J, Vl m G Z] 55 (0, 0))) (fun O => O.1) (a0, aD, ([] : List Int), 0, none, 0) ⟨R, R, R, R, R, T0⟩ ⟨a9, q, h, w, n, r, o, p, k, s, x, bg, v⟩ ?_)
 rintro ⟨a0, aE, G, I, m, Z⟩ ao bq ⟨aQ, q, h, w, n, r, o, p, k, s, x, L, v⟩
 rcases a0 with _ | a0
 · exact (Lz aQ).elim
 obtain ⟨cg, j, aQ⟩ := Bs aQ
 refine Cq (Cs (Xu 1 [(44, Vi I)] (Yg b 0 4 (Vl Y D aa) R R (Rf tfld40_3 _ _) tcell22 k nn R (Xn (vs := [Vl Y D aa]) (Vi ((D).length : Int)) R R R (Rl tsl22 _ _ _ _ _) (Xu 1 [(48, Bd (I < ((D).length : Int)))] (Xk (Cn [(0, Vp a 0), (3, Vp b 0), (4, Vp d 0), (5, Vp e 0), (7, Vi I), (48, Bd (I < ((D).length : Int)))] (fun ao => ?_))))))))
 refine Ci (decide (I < ((D).length : Int))) R j (fun j => ?_) (fun j => ?_)
 · refine Ck (Kt (Cq (Cb (Cs (Yg b 0 4 (Vl Y D aa) R R (Rf tfld40_3 _ _) tcell22 k nn R (Xu 1 [(53, Vi I)] ?_))))))
   obtain ⟨ah, cf, j⟩ := Bs j
   obtain ⟨cm, cp, b5, bN, aJ⟩ := Ri (Mo := []) tsl22 p cf
   obtain rfl := aJ
   refine Yi _ _ _ R b5 (Yl _ (Vi ah) R (Rc tcell3 bN (fun _ j => by cases j)) ?_)
   refine Xu 1 [(8, Vi ah)] (Xk (c_join (σ := Int × Int) (fun O => match O with | (aI, X) => [(0, Vp a 0), (3, Vp b 0), (4, Vp d 0), (5, Vp e 0), (7, Vi I), (8, Vi X)]) (fun O u => match O with | (aI, X) => gen_Maker_Run_J35 G I aI X = some cg ∧ Ev [a] E u ∧ MS u [[b], [d], Bk g, Bk m, [e], [a], f] ∧ FR E.heap.size [[b], [d], Bk g, Bk m, [e]] ∧ SlR eI u (fl [[b], [d], Bk g, Bk m, [e], [a], f]) af ag N ∧ u.heap[a]? = some (.cells #[Vl af N ag, Vi aI] 61 (0, 0)) ∧ SlR (eProd eI eI) u (fl [[b], [d], Bk g, Bk m, [e], [a], f]) Q S B ∧ SlR eI u (fl [[b], [d], Bk g, Bk m, [e], [a], f]) Y aa D ∧ u.heap[b]? = some (.cells #[Vi am, Vi an, Vl Q B S, Vi U, Vl Y D aa] 40 (0, 0)) ∧ u.heap[d]? = some (.cells #[Vi 0, Z0, Z0] 55 (0, 0)) ∧ OwnS eI 3 u (fl [[b], [d], Bk g, Bk m, [e], [a], f]) g J C ∧ OwnS eI 3 u (fl [[b], [d], Bk g, Bk m, [e], [a], f]) m Z G ∧ u.heap[e]? = some (.cells #[Vi ae.1, Vl g C J, Vl m G Z] 55 (0, 0))) ?_ ?_))
   · refine Cs (Xu 2 [(56, Vi ah), (57, Bd (ah ≥ 0))] (Xk (Ci (decide (ah ≥ 0)) R j (fun j => ?_) (fun j => ?_))))
     · refine Cp (Xu 2 [(58, Vp a 0), (59, Vi ah)] (Yg b 0 3 (Vi U) R R (Rf tfld40_2 _ _) tcell3 k nn R (Xu 2 [(62, Vi (i64.wrap (ah - U))), (63, Vi ah)] (Yg b 0 3 (Vi U) R R (Rf tfld40_2 _ _) tcell3 k nn R (Xu 1 [(66, Vi (i64.wrap (ah + U)))] ?_)))))
       obtain ⟨F, H, j⟩ := Bs j
       have al : MS bq ([[a]] ++ [[b], [d], Bk g, Bk m, [e], f]) := h.pk [5, 0, 1, 2, 3, 4, 6] _ R
       have aU : ∀ t ∈ fl ([[a]] ++ [[b], [d], Bk g, Bk m, [e], f]), t ∈ fl [[b], [d], Bk g, Bk m, [e], [a], f] := Pk [5, 0, 1, 2, 3, 4, 6] _ R
       have aS : ∀ t ∈ fl ([[a]] ++ [(fl [[b], [d], Bk g, Bk m, [e], f])]), t ∈ fl [[b], [d], Bk g, Bk m, [e], [a], f] := fun t H => aU t (Fu t H)
       have aK := gen_Maker_From_w a af ag N aE (i64.wrap (ah - U)) (i64.wrap (ah + U)) _ bq (fl [[b], [d], Bk g, Bk m, [e], f]) (al.fold (P := [[a]])) (n.sub aS) r H
       refine Xc 34 #[] #[] _ _ R R R R aK ?_
       rintro a2 cB ⟨rfl, au, bX⟩
       refine I1 ?_
       have ab : MS bq ([[a]] ++ [[b], [d], Bk g, Bk m, [e], f]) := h.pk [5, 0, 1, 2, 3, 4, 6] _ R
       have ax : ∀ t ∈ fl ([[a]] ++ [[b], [d], Bk g, Bk m, [e], f]), t ∈ fl [[b], [d], Bk g, Bk m, [e], [a], f] := Pk [5, 0, 1, 2, 3, 4, 6] _ R
       have aY := Stp.call (LS := [[b], [d], Bk g, Bk m, [e], [a], f]) (res := []) (par := [[a]]) (R := [[b], [d], Bk g, Bk m, [e], f]) au (fun y A => ax y (fl_left' (P := [[a]]) y A)) (FR.nil _) (NP.init _ _) (fun t H => ax t (fl_right' (P := [[a]]) t H))
       have aX : ∀ t ∈ fl [[b], [d], Bk g, Bk m, [e], [a], f], t ∈ fl ([] ++ ([[a]] ++ [[b], [d], Bk g, Bk m, [e], f])) := Pk [1, 2, 3, 4, 5, 0, 6] _ R
       have i := aY.res aX
       have n := n.step i
       have k := au.box k ((MS.outs (P := [[a]]) ab 0 R) _ mem1)
       have o := o.step i
       have p := p.step i
       have s := au.box s ((MS.outs (P := [[a]]) ab 1 R) _ mem1)
       have v := au.box v ((MS.outs (P := [[a]]) ab 4 R) _ mem1)
       have x := x.step i au (MS.outs (P := [[a]]) ab 2 R)
       have L := L.step i au (MS.outs (P := [[a]]) ab 3 R)
       have h := h.ev au
       have q := q.then au (fun y A => .inl (by simpa using A))
       have r := bX
       refine x_min (vs := [Vi 20000, Vi F.1]) (Vi (if F.1 < 20000 then F.1 else 20000)) R R R (fun _ _ => R) (x_max (vs := [Vi 0, Vi (if F.1 < 20000 then F.1 else 20000)]) (Vi (if (if F.1 < 20000 then F.1 else 20000) > 0 then (if F.1 < 20000 then F.1 else 20000) else 0)) R R R (fun _ _ => R) (Xu 1 [(8, Vi (if (if F.1 < 20000 then F.1 else 20000) > 0 then (if F.1 < 20000 then F.1 else 20000) else 0))] (Xe R ?_)))
       exact Kt ⟨(F.2, if (if F.1 < 20000 then F.1 else 20000) > 0 then (if F.1 < 20000 then F.1 else 20000) else 0), ⟨R, R, R, R, R, R, T0⟩, j, q, h, w, n, r, o, p, k, s, x, L, v⟩
     refine Ck ?_
     exact Kt ⟨(aE, ah), ⟨R, R, R, R, R, R, T0⟩, j, q, h, w, n, r, o, p, k, s, x, L, v⟩
   rintro ⟨aI, X⟩ ao cC ⟨j, q, h, w, n, r, o, p, k, s, x, L, v⟩
   refine Cp (Yg e 0 2 (Vl m G Z) R R (Rf tfld55_2 _ _) tcell22 v nn R (Xu 1 [(72, Vi X)] (Xb (vs := [(0, Vi X)]) #[Vi X] 3 R R R (by kernel_rfl) (fun bs bw bZ bH ak cv => ?_))))
   refine I1 ?_
   have bc := h
   have i := Stp.ext (ls := [[b], [d], Bk g, Bk m, [e], [a], f]) ak
   have r := ak.box r nn
   have n := n.step i
   have k := ak.box k nn
   have o := o.step i
   have p := p.step i
   have s := ak.box s nn
   have v := ak.box v nn
   have x := x.step i ak nn2
   have L := L.step i ak nn2
   have h := h.ev ak
   have q := q.ext ak
   have ca : SlR eI bw (fl [[b], [d], Bk g, Bk m, [e], [a], f]) (Ad bs 0) 1 ([X]) := ro_of_box bc bZ bH R R (cells_at (cs := [Vi X]) (CellsOf.cons (c := [Vi X]) R CellsOf.nil))
   have bb := Gl j
   have j := Gr j
   obtain ⟨aq, a7, bp, b6, av, be, cr, cc⟩ := own_appendN tel22 22 L (Mf 3 R) ca bb
   refine x_builtin (vs := [Vl m G Z, Vl (Ad bs 0) ([X]) 1]) _ bp R R R R (run_value _ _ _ _ b6) (I1 ?_)
   have i : Stp (fl [[b], [d], Bk g, Bk m, [e], [a], f]) bw (fl [[b], [d], Bk g, Bk aq, [e], [a], f]) bp := Stp.upd 3 av R (fun y A => (be y A).1)
   have r := av.box r (h.apart 5 3 R R R _ mem1)
   have n := n.step i
   have k := av.box k (h.apart 0 3 R R R _ mem1)
   have o := o.step i
   have p := p.step i
   have s := av.box s (h.apart 1 3 R R R _ mem1)
   have v := av.box v (h.apart 4 3 R R R _ mem1)
   have x := x.step i av (h.apart 2 3 R R R)
   replace h : MS bp [[b], [d], Bk g, Bk aq, [e], [a], f] := h.upd 3 av R be
   have ba : FR E.heap.size [[b], [d], Bk g, Bk aq, [e]] := w.upd 3 R q.size (fun y A => (be y A).1)
   have q := q.then av (fun y A => .inr (w.at 3 R y A))
   have w := ba
   have L := cc (fl [[b], [d], Bk g, Bk aq, [e], [a], f]) i.new
   refine Yf (Vp e 0) (Vp e 2) R (Rf tfld55_2 _ _) ?_
   obtain ⟨cj, b7, bI, aw⟩ := store_box 2 (Vl aq ((G ++ [X])) a7) #[Vi ae.1, Vl g C J, Vl aq ((G ++ [X])) a7] tcell22 v R R R
   refine Ys cj _ _ R b7 (I1 ?_)
   have i := Stp.ev' (ls := [[b], [d], Bk g, Bk aq, [e], [a], f]) aw (Mf 4 R)
   have r := aw.box r (h.apart 5 4 R R R _ mem1)
   have n := n.step i
   have k := aw.box k (h.apart 0 4 R R R _ mem1)
   have o := o.step i
   have p := p.step i
   have s := aw.box s (h.apart 1 4 R R R _ mem1)
   have x := x.step i aw (h.apart 2 4 R R R)
   have L := L.step i aw (h.apart 3 4 R R R)
   have h := h.ev aw
   have q := q.then aw (fun y A => .inr (w.at 4 R y A))
   have v := bI
   refine Xe R (Kl (Kt (Cn [(0, Vp a 0), (3, Vp b 0), (4, Vp d 0), (5, Vp e 0), (7, Vi I)] (fun ao => ?_))))
   refine Cp (Xu 3 [(49, Vi I), (50, Vi (i64.wrap (I + 1))), (7, Vi (i64.wrap (I + 1)))] (Xe R ?_))
   obtain rfl := Sj j
   exact Kt ⟨(a0, aI, (G ++ [X]), i64.wrap (I + 1), aq, a7), ⟨R, R, R, R, R, T0⟩, ⟨aQ, q, h, w, n, r, o, p, k, s, x, L, v⟩, Ns _⟩
 refine Ce (Ke ?_)
 obtain rfl := Sj j
 have bk := Sj aQ
 subst bk
 have j := bD
 refine Ke (Ki (Kt (Cn [(4, Vp d 0), (5, Vp e 0)] (fun ao => ?_))))
 refine Cs (Yl _ _ R (Ra 0 [Vi ae.1, Vl g C J, Vl m G Z] tagg55 v nn R) ?_)
 obtain ⟨ck, b8, bJ, aH⟩ := Sa [Vi ae.1, Vl g C J, Vl m G Z] tagg55 s R R R
 refine Ys ck _ _ R b8 (I1 ?_)
 have i := Stp.ev' (ls := [[b], [d], Bk g, Bk m, [e], [a], f]) aH (Mf 1 R)
 have r := aH.box r (h.apart 5 1 R R R _ mem1)
 have x := x.step i aH (h.apart 2 1 R R R)
 have L := L.step i aH (h.apart 3 1 R R R)
 have h := h.ev aH
 have q := q.then aH (fun y A => .inr (w.at 1 R y A))
 have s := bJ
 refine Xk (Cr (Rr (Rv [.agg #[Vi ae.1, Vl g C J, Vl m G Z]] ⟨⟨_, R, Lv (Ra (Mo := []) 0 [Vi ae.1, Vl g C J, Vl m G Z] tagg55 s nn R)⟩, T0⟩ ?_)))
 obtain rfl := Sj j
 have bQ := h.pk [2, 3, 5, 6] [Bk g, Bk m, [a], f] R
 have ac := Pk (ls := [[b], [d], Bk g, Bk m, [e], [a], f]) [2, 3, 5, 6] [Bk g, Bk m, [a], f] R
 have bO := w.pk [2, 3] [Bk g, Bk m] R
 exact ⟨g, J, m, Z, R, q, r, bQ, bO, x.sub ac, L.sub ac⟩
end Go.Proofs.YtfhkfjankgikcaaGreat
