
/- Walks, printed by program: each function returns what the partial function of the same name returns. Conditions: those of each theorem. -/
import Derived.Test.YtlgdhajakblkaaaGreatDoorGT
import Derived.Test.YtlgdhajakblkaaaGreatDoorGlayout
set_option linter.unusedVariables false
set_option linter.unusedSimpArgs false
set_option maxRecDepth 4000
namespace Go.Proofs.YtlgdhajakblkaaaGreatDoor
open Go Go.V Go.Proofs Go.IntKind
def tree_check_L6 (d : List (Int × (List UInt8) × Int × Int × Int × Int × Int × Int)) (b : List Int) (e : Int) : Option (Step Int (Unit ⊕ Unit)) :=
match e with
| a =>
(if (decide (a < ((b).length : Int))) = true then
((idx b a).bind fun c =>
(if (decide (c < 0)) = true then
some (.done (.inl ()))
else
(if (decide (c ≥ ((d).length : Int))) = true then
some (.done (.inl ()))
else
some (.next (i64.wrap (a + 1))))))
else
some (.done (.inr ())))
def tree_check (a : List (Int × (List UInt8) × Int × Int × Int × Int × Int × Int)) (d : List Int) : Option Int :=
((layout_Valid a).bind fun b =>
(if (b != 0) = true then
some b
else
((loop (tree_check_L6 a d) 0).bind fun c => match c with
| (.inl _) => some 2
| (.inr _) => some 0)))
theorem tree_check_w (h i b m n c B f v) (j : MS f [v]) (o : SlR (eProd eI (eProd eStr (eProd eI (eProd eI (eIt4))))) f (fl [v]) h i b) (p : SlR eI f (fl [v]) m n c) (a : tree_check b c = some B) : CallVC Tryz.prog 35 [Vl h b i, Vl m c n] f fun C q => C = Vi B ∧ Ev [] f q := by
 refine Cw hmx Tryz.func35 R R R ?_
 have g := Ev.refl [] f
 have y := FR.nil f.heap.size
 refine Cs (Xu 1 [(4, Vi 0)] (Xk (Cq (Cs (Xu 1 [(8, Vl h b i)] ?_)))))
 obtain ⟨r, I, a⟩ := Bs a
 obtain ⟨G, H⟩ := Kc j [] [0]
 have E := layout_Valid_w h i b _ f _ G (o.sub H) I
 refine Xv E R ?_
 rintro C N ⟨rfl, F⟩
 obtain ⟨o, p, j, g⟩ := E4 (Cx.e j F) o p j g
 refine Xu 1 [(5, Vi r)] (Xk (Cs (Xu 2 [(10, Vi r), (11, .bool (r != 0))] (Xk (Ci _ R a (fun a => ?_) (fun a => ?_))))))
 · refine Cs (Xu 2 [(12, Vi r), (4, Vi r)] (Xk (Cr (Kr (Rz (Vi r) R ?_)))))
   obtain rfl := Sj a
   exact ⟨R, g⟩
 refine Ck (Kt (Cq (Cs (Xu 1 [(13, Vl m c n)] (Xz tsl22 R (Xu 1 [(15, Vi 0)] (Xk (Cb ?_))))))))
 obtain ⟨D, x, w⟩ := Bs a
 obtain ⟨t, x⟩ := Lo x
 refine Cl (Lr hmx (σ := Nat × Int) (fun u => match u with | (_, d) => [(0, Vl h b i), (13, Vl m c n), (14, Vi ((c).length : Int)), (15, Vi d)]) (fun u q => match u with | (K, d) => loopN (tree_check_L6 b c) K d = some D ∧ Ev [] f q ∧ (fun z => MS q z ∧ FR f.heap.size [] ∧ SlR (eProd eI (eProd eStr (eProd eI (eProd eI (eIt4))))) q (fl z) h i b ∧ SlR eI q (fl z) m n c) [v]) (fun u => u.1) (t, 0) ⟨R, R, R, R, T0⟩ ⟨x, g, j, y, o, p⟩ ?_)
 rintro ⟨t, d⟩ A O ⟨k, g, j, y, o, p⟩
 rcases t with _ | t
 · exact (Lz k).elim
 obtain ⟨L, a, k⟩ := Bs k
 refine Cs (Xu 1 [(16, Bd (d < ((c).length : Int)))] (Xk (Cn [(0, Vl h b i), (13, Vl m c n), (14, Vi ((c).length : Int)), (15, Vi d), (16, Bd (d < ((c).length : Int)))] (fun A => ?_))))
 refine Cq (Ci _ R a (fun a => ?_) (fun a => ?_))
 · refine Ck (Kt (Cq (Cb (Cs ?_))))
   obtain ⟨l, J, a⟩ := Bs a
   refine Xq0 (p.el tsl22) tcell3 J R (fun _ => R) (fun _ => Xu 1 [(7, Vi l)] (Xk (Cs (Xu 3 [(19, Vi l), (20, Bd (l < 0)), (21, Bd (l < 0))] (Xw 21 _ R a (fun a => ?_) (fun a => ?_))))))
   · refine Xu 5 [(22, U0), (23, U0), (24, U0), (25, U0), (26, .bool true)] (Xk (c_true R (Cs (Xu 1 [(4, Vi 2)] (Xk (Cr (Kb (Kr ?_))))))))
     obtain rfl := Sj a
     have s := Sj k
     subst s
     have a := w
     refine Kr (Kb (Kr (Rz (Vi 2) R ?_)))
     obtain rfl := Sj a
     exact ⟨R, g⟩
   refine Xu 2 [(22, Vi l), (23, Vl h b i)] (Xz tsl28 R (Xu 2 [(25, Bd (l ≥ ((b).length : Int))), (26, Bd (l ≥ ((b).length : Int)))] (Xk (Ci _ R a (fun a => ?_) (fun a => ?_)))))
   · refine Cs (Xu 1 [(4, Vi 2)] (Xk (Cr (Kb (Kr ?_)))))
     obtain rfl := Sj a
     have s := Sj k
     subst s
     have a := w
     refine Kr (Kb (Kr (Rz (Vi 2) R ?_)))
     obtain rfl := Sj a
     exact ⟨R, g⟩
   refine Ck (Kl (Kt (Cp (Xu 2 [(27, Vi (i64.wrap (d + 1))), (15, Vi (i64.wrap (d + 1)))] (Xe R ?_)))))
   obtain rfl := Sj a
   exact Kt ⟨(t, i64.wrap (d + 1)), ⟨R, R, R, R, T0⟩, ⟨k, g, j, y, o, p⟩, Ns _⟩
 refine Ce (Ke ?_)
 obtain rfl := Sj a
 have s := Sj k
 subst s
 have a := w
 refine Ke (Ki (Kt (c_norm [] T0 (fun A => ?_))))
 refine Cs (Xu 1 [(4, Vi 0)] (Xk (Cr (Rz (Vi 0) R ?_))))
 obtain rfl := Sj a
 exact ⟨R, g⟩
def tree_beyond_J30 (b : List Int) (a : Int) (c : List Bool) (d : Bool) : Option (Step ((List Bool) × (List Int) × Int) (List Int)) :=
(if d = true then
(if b.length + ([a]).length ≤ 4294967296 then
some (.next (c, (b ++ [a]), i64.wrap (a + 1)))
else none)
else
some (.next (c, b, i64.wrap (a + 1))))
def tree_beyond_J15 (c : List Int) (b : Int) (d : Int × (List UInt8) × Int × Int × Int × Int × Int × Int) (a : List Bool) : Option (Step ((List Bool) × (List Int) × Int) (List Int)) :=
((idx a b).bind fun e =>
(if e = true then
tree_beyond_J30 c b a (d.1 == 4)
else
tree_beyond_J30 c b a false))
def tree_beyond_L4 (e : List (Int × (List UInt8) × Int × Int × Int × Int × Int × Int)) (f : Int) (g : (List Bool) × (List Int) × Int) : Option (Step ((List Bool) × (List Int) × Int) (List Int)) :=
match g with
| (b, c, a) =>
(if (decide (a < ((e).length : Int))) = true then
((idx e a).bind fun d =>
(if (a == f) = true then
((idx b a).bind fun i =>
tree_beyond_J15 c a d (b.set (Int.toNat a) true))
else
(if (decide (a > 0)) = true then
((idx b d.2.2.1).bind fun h =>
((idx b a).bind fun j =>
tree_beyond_J15 c a d (b.set (Int.toNat a) h)))
else
((idx b a).bind fun k =>
tree_beyond_J15 c a d (b.set (Int.toNat a) false)))))
else
some (.done c))
def tree_beyond (a : List (Int × (List UInt8) × Int × Int × Int × Int × Int × Int)) (d : Int) : Option (List Int) :=
(if (0 : Int) ≤ ((a).length : Int) ∧ (((a).length : Int) : Int) ≤ 4294967296 then
((loop (tree_beyond_L4 a d) ((List.replicate (Int.toNat ((a).length : Int)) false : List Bool), ([] : List Int), 0)).bind fun b => match b with
| c => some c)
else none)
theorem tree_beyond_w (D E q I ah B H) (a : MS B [H]) (g : SlR (eProd eI (eProd eStr (eProd eI (eProd eI (eIt4))))) B (fl [H]) D E q) (d : tree_beyond q I = some ah) : CallVC Tryz.prog 36 [Vl D q E, Vi I] B fun bh v => ∃ S ai, bh = Vl S ah ai ∧ Ev [] B v ∧ MS v [Bk S, H] ∧ FR B.heap.size [Bk S] ∧ OwnS eI 3 v (fl [Bk S, H]) S ai ah := by
 refine Cw hmx Tryz.func36 R R R ?_
 have k := Ev.refl [] B
 have h := FR.nil B.heap.size
 refine Cs (Xu 1 [(4, Z0)] (Xk (Cs (Xu 1 [(9, Vl D q E)] (Xz tsl28 R ?_)))))
 have Z := Gl d
 have d := Gr d
 obtain ⟨o, x, aA, a3, al, ap, bb⟩ := own_make (e := eBool) tel154 B ((q).length : Int) Z.1 Z.2 false (fun _ _ => R)
 refine Xm _ aA (xv := Vi ((q).length : Int)) (yv := Vi ((q).length : Int)) R R R R a3 (I1 ?_)
 obtain ⟨g, a⟩ := E2 (Cx.p a al ap) g a
 have h := h.push (fun b aI => Nat.le_trans k.size (ap b aI).1)
 have k := k.ext al
 have f := bb (fl [Bk o, H])
 refine Xu 1 [(5, Vl o ((List.replicate (Int.toNat ((q).length : Int)) false : List Bool)) x)] (Xk (Cs (Xu 1 [(6, Z0)] (Xk (Cq (Cs (Xu 1 [(12, Vl D q E)] (Xz tsl28 R (Xu 1 [(14, Vi 0)] ?_)))))))))
 refine Xk (Cb ?_)
 obtain ⟨g, f, a⟩ := E3 (Cx.n a) g f a
 have h := h.pn
 have ad := OwnS.nil eI 3 aA (fl [Bk none, Bk o, H])
 obtain ⟨f, ad, g, a⟩ := E4 (Cx.s a [1, 0, 2]) f ad g a
 have h := h.px [1, 0]
 obtain ⟨aD, ac, aE⟩ := Bs d
 obtain ⟨Q, ac⟩ := Lo ac
 refine Cl (Lr hmx (σ := Nat × (List Bool) × (List Int) × Int × Option Addr × Nat) (fun G => match G with | (_, w, t, c, r, z) => [(1, Vi I), (5, Vl o w x), (6, Vl r t z), (12, Vl D q E), (13, Vi ((q).length : Int)), (14, Vi c)]) (fun G v => match G with | (bg, w, t, c, r, z) => loopN (tree_beyond_L4 q I) bg (w, t, c) = some aD ∧ Ev [] B v ∧ (fun C => MS v C ∧ FR B.heap.size [Bk o, Bk r] ∧ OwnS eBool 4 v (fl C) o x w ∧ OwnS eI 3 v (fl C) r z t ∧ SlR (eProd eI (eProd eStr (eProd eI (eProd eI (eIt4))))) v (fl C) D E q) [Bk o, Bk r, H]) (fun G => G.1) (Q, (List.replicate (Int.toNat ((q).length : Int)) false : List Bool), ([] : List Int), 0, none, 0) ⟨R, R, R, R, R, R, T0⟩ ⟨ac, k, a, h, f, ad, g⟩ ?_)
 rintro ⟨Q, w, t, c, r, z⟩ L bE ⟨O, k, a, h, f, i, g⟩
 rcases Q with _ | Q
 · exact (Lz O).elim
 obtain ⟨az, d, O⟩ := Bs O
 refine Cs (Xu 1 [(15, Bd (c < ((q).length : Int)))] (Xk (Cn [(1, Vi I), (5, Vl o w x), (6, Vl r t z), (12, Vl D q E), (13, Vi ((q).length : Int)), (14, Vi c), (15, Bd (c < ((q).length : Int)))] (fun L => ?_))))
 refine Cq (Ci _ R d (fun d => ?_) (fun d => ?_))
 · refine Ck (Kt (Cq (Cb (Cs (Xu 1 [(16, Vi c)] ?_)))))
   obtain ⟨m, bd, d⟩ := Bs d
   refine Xqa [Vi m.1, Vs m.2.1, Vi m.2.2.1, Vi m.2.2.2.1, Vi m.2.2.2.2.1, Vi m.2.2.2.2.2.1, Vi m.2.2.2.2.2.2.1, Vi m.2.2.2.2.2.2.2] (g.el tsl28) tagg79 bd R (fun _ => R) (fun _ => Xj #[Vi 0, Vs ([] : List UInt8), Vi 0, Vi 0, Vi 0, Vi 0, Vi 0, Vi 0] R (fun N bu ar A aL => ?_))
   have h := h.box k.size ar
   obtain ⟨f, i, g, a, k⟩ := E5 (Cx.b a aL ar A) f i g a k
   refine Xu 1 [(7, Vi c)] ?_
   obtain ⟨bv, a0, aJ, aj⟩ := Sa [Vi m.1, Vs m.2.1, Vi m.2.2.1, Vi m.2.2.2.1, Vi m.2.2.2.2.1, Vi m.2.2.2.2.2.1, Vi m.2.2.2.2.2.2.1, Vi m.2.2.2.2.2.2.2] tagg79 A R R R
   refine Xp a0 R ?_
   obtain ⟨f, i, g, a⟩ := E4 (Cx.j a 0 aj) f i g a
   have k := k.th aj h 0
   have A := aJ
   refine Xk (c_join (σ := (List Bool)) (fun G => match G with | F => [(1, Vi I), (5, Vl o F x), (6, Vl r t z), (7, Vi c), (8, Vp N 0), (12, Vl D q E), (13, Vi ((q).length : Int)), (14, Vi c)]) (fun G v => match G with | F => tree_beyond_J15 t c m F = some az ∧ Ev [] B v ∧ (fun C => MS v C ∧ FR B.heap.size [Bk o, Bk r, [N]] ∧ OwnS eBool 4 v (fl C) o x F ∧ OwnS eI 3 v (fl C) r z t ∧ v.heap[N]? = some (.cells #[Vi m.1, Vs m.2.1, Vi m.2.2.1, Vi m.2.2.2.1, Vi m.2.2.2.2.1, Vi m.2.2.2.2.2.1, Vi m.2.2.2.2.2.2.1, Vi m.2.2.2.2.2.2.2] 79 (0, 0)) ∧ SlR (eProd eI (eProd eStr (eProd eI (eProd eI (eIt4))))) v (fl C) D E q) [Bk o, Bk r, [N], H]) ?_ ?_)
   · refine Cp (Xu 6 [(19, Vl o w x), (20, Vi c), (21, Vi c), (22, Vi I), (23, .bool (c == I)), (24, .bool (c == I))] (Xw 24 _ R d (fun d => ?_) (fun d => ?_)))
     · refine Xu 10 [(25, U0), (26, U0), (27, U0), (28, U0), (29, U0), (30, U0), (31, U0), (32, U0), (33, U0), (34, .bool true)] ?_
       obtain ⟨bF, ae, d⟩ := Bs d
       obtain ⟨bn, bk, aF, a1, bq, J⟩ := Oi (Mo := []) tsl154 f ae
       obtain rfl := J
       refine Yi _ _ _ R a1 ?_
       have aw := ae
       obtain ⟨bw, a2, ak, aU⟩ := own_storeE aF (y := true) 0 (.bool true) tcell4 f (Mf 1 R) ae R R (fun _ _ _ J => set_bool J)
       refine Xp a2 R ?_
       obtain ⟨i, g, A, a⟩ := E4 (Cx.j a 1 ak) i g A a
       have k := k.th ak h 1
       have f := aU
       have U : (Vl o w x) = (Vl o ((w.set (Int.toNat c) true)) x) := by simp only [Vl, List.length_set]
       try rw [U]
       replace aw : idx (w.set (Int.toNat c) true) c = some true := idx_set_self aw _
       refine Xe R ?_
       obtain ⟨f, i, g, a⟩ := E4 (Cx.s a [1, 2, 0, 3]) f i g a
       have h := h.px [1, 2, 0]
       exact Kt ⟨(w.set (Int.toNat c) true), ⟨R, R, R, R, R, R, R, R, T0⟩, d, k, a, h, f, i, A, g⟩
     refine Xu 3 [(25, Vi c), (26, Bd (c > 0)), (27, Bd (c > 0))] (Xw 27 _ R d (fun d => ?_) (fun d => ?_))
     · refine Xu 1 [(28, Vl o w x)] (Yg N 0 2 (Vi m.2.2.1) R R (Rf tfld79_2 _) tcell3 A nn R ?_)
       obtain ⟨K, au, d⟩ := Bs d
       refine Xq0 (f.el tsl154) tcell4 au R (fun _ => R) (fun _ => Xu 2 [(33, .bool K), (34, .bool K)] ?_)
       obtain ⟨bG, af, d⟩ := Bs d
       obtain ⟨bo, bl, aG, a4, br, J⟩ := Oi (Mo := []) tsl154 f af
       obtain rfl := J
       refine Yi _ _ _ R a4 ?_
       have ax := af
       have av := au
       obtain ⟨bx, a5, am, aX⟩ := own_storeE aG (y := K) 0 (.bool K) tcell4 f (Mf 1 R) af R R (fun _ _ _ J => set_bool J)
       refine Xp a5 R ?_
       obtain ⟨i, g, A, a⟩ := E4 (Cx.j a 1 am) i g A a
       have k := k.th am h 1
       have f := aX
       have U : (Vl o w x) = (Vl o ((w.set (Int.toNat c) K)) x) := by simp only [Vl, List.length_set]
       try rw [U]
       obtain ⟨_, av⟩ : ∃ y, idx (w.set (Int.toNat c) K) m.2.2.1 = some y := idx_set_any av _ _
       replace ax : idx (w.set (Int.toNat c) K) c = some K := idx_set_self ax _
       refine Xe R ?_
       obtain ⟨f, i, g, a⟩ := E4 (Cx.s a [1, 2, 0, 3]) f i g a
       have h := h.px [1, 2, 0]
       exact Kt ⟨(w.set (Int.toNat c) K), ⟨R, R, R, R, R, R, R, R, T0⟩, d, k, a, h, f, i, A, g⟩
     refine Xu 7 [(28, U0), (29, U0), (30, U0), (31, U0), (32, U0), (33, .bool false), (34, .bool false)] ?_
     obtain ⟨bH, ag, d⟩ := Bs d
     obtain ⟨bp, bm, aH, a6, bs, J⟩ := Oi (Mo := []) tsl154 f ag
     obtain rfl := J
     refine Yi _ _ _ R a6 ?_
     have ay := ag
     obtain ⟨bz, a7, an, aY⟩ := own_storeE aH (y := false) 0 (.bool false) tcell4 f (Mf 1 R) ag R R (fun _ _ _ J => set_bool J)
     refine Xp a7 R ?_
     obtain ⟨i, g, A, a⟩ := E4 (Cx.j a 1 an) i g A a
     have k := k.th an h 1
     have f := aY
     have U : (Vl o w x) = (Vl o ((w.set (Int.toNat c) false)) x) := by simp only [Vl, List.length_set]
     try rw [U]
     replace ay : idx (w.set (Int.toNat c) false) c = some false := idx_set_self ay _
     refine Xe R ?_
     obtain ⟨f, i, g, a⟩ := E4 (Cx.s a [1, 2, 0, 3]) f i g a
     have h := h.px [1, 2, 0]
     exact Kt ⟨(w.set (Int.toNat c) false), ⟨R, R, R, R, R, R, R, R, T0⟩, d, k, a, h, f, i, A, g⟩
   rintro F L bC ⟨d, k, a, h, f, i, A, g⟩
   refine c_join (σ := Bool) (fun G => match G with | Y => [(1, Vi I), (5, Vl o F x), (6, Vl r t z), (7, Vi c), (12, Vl D q E), (13, Vi ((q).length : Int)), (14, Vi c), (44, .bool Y)]) (fun G v => match G with | Y => tree_beyond_J30 t c F Y = some az ∧ Ev [] B v ∧ (fun C => MS v C ∧ FR B.heap.size [Bk o, Bk r] ∧ OwnS eBool 4 v (fl C) o x F ∧ OwnS eI 3 v (fl C) r z t ∧ SlR (eProd eI (eProd eStr (eProd eI (eProd eI (eIt4))))) v (fl C) D E q) [Bk o, Bk r, H]) ?_ ?_
   · refine Cp (Xu 2 [(36, Vl o F x), (37, Vi c)] ?_)
     obtain ⟨aB, be, d⟩ := Bs d
     refine Xq0 (f.el tsl154) tcell4 be R (fun _ => R) (fun _ => Xu 1 [(40, .bool aB)] (Xw 40 aB R d (fun d => ?_) (fun d => ?_)))
     · refine Yg N 0 0 (Vi m.1) R R (Rf tfld79_0 _) tcell3 A nn R (Xu 2 [(43, .bool (m.1 == 4)), (44, .bool (m.1 == 4))] (Xe R ?_))
       obtain ⟨f, i, g, a⟩ := E4 (Cx.s a [0, 1, 3]) f i g a
       have h := h.px [0, 1]
       exact Kt ⟨m.1 == 4, ⟨R, R, R, R, R, R, R, R, T0⟩, d, k, a, h, f, i, g⟩
     refine Xu 4 [(41, U0), (42, U0), (43, U0), (44, .bool false)] (Xe R ?_)
     obtain ⟨f, i, g, a⟩ := E4 (Cx.s a [0, 1, 3]) f i g a
     have h := h.px [0, 1]
     exact Kt ⟨false, ⟨R, R, R, R, R, R, R, R, T0⟩, d, k, a, h, f, i, g⟩
   rintro Y L bD ⟨d, k, a, h, f, i, g⟩
   refine Ci Y R d (fun d => ?_) (fun d => ?_)
   · refine Cp (Xu 2 [(45, Vl r t z), (46, Vi c)] (Xh #[Vi c] 3 R (fun bj bA aZ aK aN => ?_)))
     have X := Cx.e a aN
     obtain ⟨f, i, g, a, k⟩ := E5 X f i g a k
     have a9 := X.l (e := eI) aZ aK 1 [c]
     have Z := Gl d
     have d := Gr d
     obtain ⟨aa, ab, bB, a8, ao, aq, bt, bc⟩ := own_appendN tel22 22 i (Mf 1 R) a9 Z
     refine Xx R (Rn a8) ?_
     have X := Cx.u a 1 ao aq
     obtain ⟨f, g, a⟩ := E3 X f g a
     have aQ := h.ux 1 k aq
     have k := k.th ao h 1
     have h := aQ
     have i := bc _ X.st.new
     refine Xu 1 [(6, Vl aa ((t ++ [c])) ab)] (Xe R (Kl (Kt (Cn [(1, Vi I), (5, Vl o F x), (6, Vl aa ((t ++ [c])) ab), (12, Vl D q E), (13, Vi ((q).length : Int)), (14, Vi c)] (fun L => ?_)))))
     refine Cp (Xu 2 [(49, Vi (i64.wrap (c + 1))), (14, Vi (i64.wrap (c + 1)))] (Xe R ?_))
     obtain rfl := Sj d
     exact Kt ⟨(Q, F, (t ++ [c]), i64.wrap (c + 1), aa, ab), ⟨R, R, R, R, R, R, T0⟩, ⟨O, k, a, h, f, i, g⟩, Ns _⟩
   refine Ck (Kl (Kt (Cn [(1, Vi I), (5, Vl o F x), (6, Vl r t z), (12, Vl D q E), (13, Vi ((q).length : Int)), (14, Vi c)] (fun L => ?_))))
   refine Cp (Xu 2 [(49, Vi (i64.wrap (c + 1))), (14, Vi (i64.wrap (c + 1)))] (Xe R ?_))
   obtain rfl := Sj d
   exact Kt ⟨(Q, F, t, i64.wrap (c + 1), r, z), ⟨R, R, R, R, R, R, T0⟩, ⟨O, k, a, h, f, i, g⟩, Ns _⟩
 refine Ce (Ke ?_)
 obtain rfl := Sj d
 have bf := Sj O
 subst bf
 have d := aE
 refine Ke (Ki (Kt (Cn [(6, Vl r t z)] (fun L => ?_))))
 refine Cs (Xu 2 [(50, Vl r t z), (4, Vl r t z)] (Xk (Cr (Rz (Vl r t z) R ?_))))
 obtain rfl := Sj d
 have aS := a.pk [1, 2] [Bk r, H] R
 have ba := Pk (ls := [Bk o, Bk r, H]) [1, 2] [Bk r, H] R
 have aO := h.pk [1] [Bk r] R
 exact ⟨r, z, R, k, aS, aO, i.sub ba⟩
def tree_Tracks (a : List (Int × (List UInt8) × Int × Int × Int × Int × Int × Int)) : Option ((List Int) × Int) :=
((tree_check a ([])).bind fun b =>
(if (b != 0) = true then
some ([], b)
else
((tree_beyond a 0).bind fun c =>
some (c, 0))))
theorem tree_Tracks_w (j k i p f d) (a : MS f [d]) (o : SlR (eProd eI (eProd eStr (eProd eI (eProd eI (eIt4))))) f (fl [d]) j k i) (b : tree_Tracks i = some p) : CallVC Tryz.prog 8 [Vl j i k] f fun y z => ∃ m A, y = .tuple #[Vl m p.1 A, Vi p.2] ∧ Ev [] f z ∧ MS z [Bk m, d] ∧ FR f.heap.size [Bk m] ∧ OwnS eI 3 z (fl [Bk m, d]) m A p.1 := by
 refine Cw hmx Tryz.func8 R R R ?_
 have h := Ev.refl [] f
 have n := FR.nil f.heap.size
 refine Cs (Xu 2 [(2, Z0), (3, Vi 0)] (Xk (Cq (Cs (Xu 1 [(5, Vl j i k)] ?_)))))
 obtain ⟨l, x, b⟩ := Bs b
 obtain ⟨v, w⟩ := Kc a [] [0]
 have r := tree_check_w j k i none 0 ([]) _ f _ v (o.sub w) (SlR.empty _ _ _) x
 refine Xv r R ?_
 rintro y I ⟨rfl, E⟩
 obtain ⟨o, a, h⟩ := E3 (Cx.e a E) o a h
 refine Xu 1 [(4, Vi l)] (Xk (Cs (Xu 2 [(7, Vi l), (8, .bool (l != 0))] (Xk (Ci _ R b (fun b => ?_) (fun b => ?_))))))
 · refine Cs (Xu 3 [(9, Vi l), (2, Z0), (3, Vi l)] (Xk (Cr (Kr (Rr (Rv [Z0, Vi l] ⟨R, R, T0⟩ ?_))))))
   obtain rfl := Sj b
   have u := a.pick [none, some 0] [Bk none, d] R
   have t := n.pick [none] [Bk none] R
   exact ⟨none, 0, R, h, u, t, OwnS.nil _ _ _ _⟩
 refine Ck (Kt (Cs (Xu 1 [(10, Vl j i k)] ?_)))
 obtain ⟨D, x, b⟩ := Bs b
 obtain ⟨v, w⟩ := Kc a [] [0]
 have r := tree_beyond_w j k i 0 _ I _ v (o.sub w) x
 refine Xv r R ?_
 rintro y J ⟨g, q, rfl, B, G, C, s⟩
 have a := E1 (Cx.c a [] B G C) a
 have F := n.cc h C
 have h := h.ext B
 have n := F
 have s := s.pl a
 refine Xu 2 [(2, Vl g D q), (3, Vi 0)] (Xk (Cr (Rr (Rv [Vl g D q, Vi 0] ⟨R, R, T0⟩ ?_))))
 obtain rfl := Sj b
 have u := a.pk [0, 1] [Bk g, d] R
 have H := Pk (ls := [Bk g, d]) [0, 1] [Bk g, d] R
 have t := n.pk [0] [Bk g] R
 exact ⟨g, q, R, h, u, t, s.sub H⟩
def tree_path_b (d : (List (Int × (List UInt8) × Int × Int × Int × Int × Int × Int)) → Int → Option (List Int)) (b : List (Int × (List UInt8) × Int × Int × Int × Int × Int × Int)) (a : Int) : Option (List Int) :=
(if (a == 0) = true then
some ([0] : List Int)
else
((idx b a).bind fun e =>
((d b e.2.2.1).bind fun c =>
(if c.length + ([a] : List Int).length ≤ 4294967296 then
some (c ++ ([a] : List Int))
else none))))
theorem tree_path_bw (G : (List (Int × (List UInt8) × Int × Int × Int × Int × Int × Int)) → Int → Option (List Int)) (U : ∀ (n : Option Addr) (o : Nat) (k : List (Int × (List UInt8) × Int × Int × Int × Int × Int × Int)) (h : Int) (r : (List Int)) (g : World) (b : List Nat) (d : MS g [b]) (E : SlR (eProd eI (eProd eStr (eProd eI (eProd eI (eIt4))))) g (fl [b]) n o k) (a : G k h = some r), CallVC Tryz.prog 65 [Vl n k o, Vi h] g fun v s => ∃ (i : Option Addr), ∃ (t : Nat), v = Vl i r t ∧ Ev [] g s ∧ MS s [Bk i, b] ∧ FR g.heap.size [Bk i] ∧ OwnS eI 3 s (fl [Bk i, b]) i t r) (n o k h r g b) (d : MS g [b]) (E : SlR (eProd eI (eProd eStr (eProd eI (eProd eI (eIt4))))) g (fl [b]) n o k) (a : tree_path_b G k h = some r) : CallVC Tryz.prog 65 [Vl n k o, Vi h] g fun v s => ∃ i t, v = Vl i r t ∧ Ev [] g s ∧ MS s [Bk i, b] ∧ FR g.heap.size [Bk i] ∧ OwnS eI 3 s (fl [Bk i, b]) i t r := by
 refine Cw hmx Tryz.func65 R R R ?_
 have f := Ev.refl [] g
 have j := FR.nil g.heap.size
 refine Cs (Xu 1 [(4, Z0)] (Xk (Cq (Cs (Xu 2 [(5, Vi h), (6, .bool (h == 0))] (Xk (Ci _ R a (fun a => ?_) (fun a => ?_))))))))
 · refine Cs (Xh #[Vi 0] 3 R (fun au az ai aa J => ?_))
   obtain ⟨m, Y, an, Q⟩ := Ol (e := eI) ai aa 1 [0]
   have d := E1 (Cx.p d J Q) d
   have j := j.push (fun y A => Nat.le_trans f.size (Q y A).1)
   have f := f.ext J
   have af := an (fl [Bk m, b])
   rw [← Y]
   refine Xu 1 [(4, Vl m (([0] : List Int)) 1)] (Xk (Cr (Kr (Rz (Vl m (([0] : List Int)) 1) R ?_))))
   obtain rfl := Sj a
   have D := d.pk [0, 1] [Bk m, b] R
   have F := Pk (ls := [Bk m, b]) [0, 1] [Bk m, b] R
   have B := j.pk [0] [Bk m] R
   exact ⟨m, 1, R, f, D, B, af.sub F⟩
 refine Ck (Kt (Cs (Xu 3 [(8, Vl n k o), (9, Vl n k o), (10, Vi h)] ?_)))
 obtain ⟨aq, ap, a⟩ := Bs a
 refine Xq (E.el tsl28) tfld79_2 tcell3 ap R (fun _ => R) (fun _ => ?_)
 obtain ⟨S, ao, a⟩ := Bs a
 obtain ⟨ag, ak⟩ := Kc d [] [0]
 have ab := U n o k aq.2.2.1 _ g _ ag (E.sub ak) ao
 refine Xv ab R ?_
 rintro v aA ⟨w, av, rfl, K, ad, L, q⟩
 have d := E1 (Cx.c d [] K ad L) d
 have C := j.cc f L
 have f := f.ext K
 have j := C
 have q := q.pl d
 refine Xu 1 [(15, Vi h)] (Xh #[Vi h] 3 R (fun ar ax ah Z H => ?_))
 obtain ⟨x, X, al, N⟩ := Ol (e := eI) ah Z 1 [h]
 obtain ⟨q, d⟩ := E2 (Cx.p d H N) q d
 have j := j.push (fun y A => Nat.le_trans f.size (N y A).1)
 have f := f.ext H
 have ae := al (fl [Bk x, Bk w, b])
 rw [← X]
 have ac := Gl a
 have a := Gr a
 obtain ⟨l, z, ay, aj, I, O, aw, am⟩ := own_appendN (M := (Bk w)) tel22 22 (OwnS.plain (Pi _) q) (fun _ a => a) (OwnS.ro (M := (Bk w)) (OwnS.plain (Pi _) ae) (fun _ a => a) (d.apart 0 1 R R R)) ac
 refine Xx R (Rn aj) ?_
 have d := E1 (Cx.u d 1 I O) d
 have C := j.ux 1 f O
 have f := f.th I j 1
 have j := C
 have q := OwnS.plain (M' := fl [Bk x, Bk l, b]) (Pi _) (am [] (fun _ a => by cases a))
 refine Xu 1 [(4, Vl l ((S ++ ([h] : List Int))) z)] (Xk (Cr (Rz (Vl l ((S ++ ([h] : List Int))) z) R ?_)))
 obtain rfl := Sj a
 have D := d.pk [1, 2] [Bk l, b] R
 have F := Pk (ls := [Bk x, Bk l, b]) [1, 2] [Bk l, b] R
 have B := j.pk [1] [Bk l] R
 exact ⟨l, z, R, f, D, B, q.sub F⟩
def tree_path_n : Nat → (List (Int × (List UInt8) × Int × Int × Int × Int × Int × Int)) → Int → Option (List Int)
| 0 => fun _ _ => none
| a + 1 => tree_path_b (tree_path_n a)
theorem tree_path_nw : ∀ (b : Nat) (h : Option Addr) (j : Nat) (e : List (Int × (List UInt8) × Int × Int × Int × Int × Int × Int)) (l : Int) (f : (List Int)) (c : World) (d : List Nat) (o : MS c [d]) (p : SlR (eProd eI (eProd eStr (eProd eI (eProd eI (eIt4))))) c (fl [d]) h j e) (k : tree_path_n b e l = some f), CallVC Tryz.prog 65 [Vl h e j, Vi l] c fun n g => ∃ (a : Option Addr), ∃ (i : Nat), n = Vl a f i ∧ Ev [] c g ∧ MS g [Bk a, d] ∧ FR c.heap.size [Bk a] ∧ OwnS eI 3 g (fl [Bk a, d]) a i f := by
 intro b
 induction b with
 | zero => intros; rename_i k; cases k
 | succ b m => exact tree_path_bw (tree_path_n b) m
def tree_path : (List (Int × (List UInt8) × Int × Int × Int × Int × Int × Int)) → Int → Option (List Int) := tree_path_n 100
theorem tree_path_w (f : Option Addr) (g : Nat) (d : List (Int × (List UInt8) × Int × Int × Int × Int × Int × Int)) (h : Int) (e : (List Int)) (a : World) (b : List Nat) (l : MS a [b]) (m : SlR (eProd eI (eProd eStr (eProd eI (eProd eI (eIt4))))) a (fl [b]) f g d) (k : tree_path d h = some e) : CallVC Tryz.prog 65 [Vl f d g, Vi h] a fun n i => ∃ (c : Option Addr), ∃ (j : Nat), n = Vl c e j ∧ Ev [] a i ∧ MS i [Bk c, b] ∧ FR a.heap.size [Bk c] ∧ OwnS eI 3 i (fl [Bk c, b]) c j e := tree_path_nw 100 f g d h e a b l m k
def tree_Path (a : List (Int × (List UInt8) × Int × Int × Int × Int × Int × Int)) (b : Int) : Option ((List Int) × Int) :=
((tree_check a ([b])).bind fun c =>
(if (c != 0) = true then
some ([], c)
else
((tree_path a b).bind fun d =>
some (d, 0))))
theorem tree_Path_w (k m i g s j f) (a : MS j [f]) (n : SlR (eProd eI (eProd eStr (eProd eI (eProd eI (eIt4))))) j (fl [f]) k m i) (b : tree_Path i g = some s) : CallVC Tryz.prog 37 [Vl k i m, Vi g] j fun A B => ∃ p C, A = .tuple #[Vl p s.1 C, Vi s.2] ∧ Ev [] j B ∧ MS B [Bk p, f] ∧ FR j.heap.size [Bk p] ∧ OwnS eI 3 B (fl [Bk p, f]) p C s.1 := by
 refine Cw hmx Tryz.func37 R R R ?_
 have d := Ev.refl [] j
 have q := FR.nil j.heap.size
 refine Cs (Xu 2 [(4, Z0), (5, Vi 0)] (Xk (Cq (Cs (Xu 2 [(7, Vl k i m), (8, Vi g)] (Xh #[Vi g] 3 R (fun H U O I J => ?_)))))))
 have F := Cx.e a J
 obtain ⟨n, a, d⟩ := E3 F n a d
 have Q := F.l (e := eI) O I 1 [g]
 obtain ⟨o, z, b⟩ := Bs b
 obtain ⟨y, r⟩ := Kc a [] [0]
 have u := tree_check_w k m i (Ad H 0) 1 ([g]) _ U _ y (n.sub r) (Q.sub r) z
 refine Xv u R ?_
 rintro A X ⟨rfl, K⟩
 obtain ⟨n, a, d⟩ := E3 (Cx.e a K) n a d
 refine Xu 1 [(6, Vi o)] (Xk (Cs (Xu 2 [(11, Vi o), (12, .bool (o != 0))] (Xk (Ci _ R b (fun b => ?_) (fun b => ?_))))))
 · refine Cs (Xu 3 [(13, Vi o), (4, Z0), (5, Vi o)] (Xk (Cr (Kr (Rr (Rv [Z0, Vi o] ⟨R, R, T0⟩ ?_))))))
   obtain rfl := Sj b
   have x := a.pick [none, some 0] [Bk none, f] R
   have w := q.pick [none] [Bk none] R
   exact ⟨none, 0, R, d, x, w, OwnS.nil _ _ _ _⟩
 refine Ck (Kt (Cs (Xu 2 [(14, Vl k i m), (15, Vi g)] ?_)))
 obtain ⟨G, z, b⟩ := Bs b
 obtain ⟨y, r⟩ := Kc a [] [0]
 have u := tree_path_w k m i g _ X _ y (n.sub r) z
 refine Xv u R ?_
 rintro A Y ⟨h, t, rfl, D, N, E, v⟩
 have a := E1 (Cx.c a [] D N E) a
 have L := q.cc d E
 have d := d.ext D
 have q := L
 have v := v.pl a
 refine Xu 2 [(4, Vl h G t), (5, Vi 0)] (Xk (Cr (Rr (Rv [Vl h G t, Vi 0] ⟨R, R, T0⟩ ?_))))
 obtain rfl := Sj b
 have x := a.pk [0, 1] [Bk h, f] R
 have S := Pk (ls := [Bk h, f]) [0, 1] [Bk h, f] R
 have w := q.pk [0] [Bk h] R
 exact ⟨h, t, R, d, x, w, v.sub S⟩
end Go.Proofs.YtlgdhajakblkaaaGreatDoor
