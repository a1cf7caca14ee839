
/- Walks, printed by program: each function returns what the partial function of the same name returns. Conditions: those of each theorem. -/
import Derived.Test.YtfhkfjankgikcaaGreatGT
set_option linter.unusedVariables false
set_option linter.unusedSimpArgs false
set_option maxRecDepth 4000
namespace Go.Proofs.YtfhkfjankgikcaaGreat
open Go Go.V Go.Proofs Go.IntKind
def slices_Concat_int_int__L13 (c : List (List Int)) (e : (List Int) × Int) : Option (Step ((List Int) × Int) (List Int)) :=
match e with
| (a, b) =>
(if (decide (b < ((c).length : Int))) = true then
((idx c b).bind fun d =>
(if a.length + d.length ≤ 4294967296 then
some (.next ((a ++ d), i64.wrap (b + 1)))
else none))
else
some (.done a))
def slices_Concat_int_int__L20 (c : List (List Int)) (e : (List Int) × Int) : Option (Step ((List Int) × Int) (List Int)) :=
match e with
| (a, b) =>
(if (decide (b < ((c).length : Int))) = true then
((idx c b).bind fun d =>
(if a.length + d.length ≤ 4294967296 then
some (.next ((a ++ d), i64.wrap (b + 1)))
else none))
else
some (.done a))
def slices_Concat_int_int__L3 (c : List (List Int)) (e : Int × Int) : Option (Step (Int × Int) Int) :=
match e with
| (a, b) =>
(if (decide (b < ((c).length : Int))) = true then
((idx c b).bind fun d =>
(if (decide ((i64.wrap (a + ((d).length : Int))) < 0)) = true then
none
else
some (.next (i64.wrap (a + ((d).length : Int)), i64.wrap (b + 1)))))
else
some (.done a))
def slices_Concat_int_int_ (c : List (List Int)) : Option (List Int) :=
((loop (slices_Concat_int_int__L3 c) (0, 0)).bind fun b => match b with
| a => (if (decide (a < 0)) = true then
none
else
(if (decide ((i64.wrap (a - (i64.wrap (0 - 0)))) > 0)) = true then
(if (0 : Int) < i64.wrap (a - (i64.wrap (0 - 0))) ∧ (i64.wrap (a - (i64.wrap (0 - 0))) : Int) ≤ 4294967296 then
(if 0 ≤ (0 : Int) ∧ (0 : Int) ≤ ((List.replicate (Int.toNat (i64.wrap (a - (i64.wrap (0 - 0))))) 0 : List Int).length : Int) then
((loop (slices_Concat_int_int__L13 c) (((List.replicate (Int.toNat (i64.wrap (a - (i64.wrap (0 - 0))))) 0 : List Int).take (Int.toNat (0 : Int))), 0)).bind fun b => match b with
| d => some d)
else none)
else none)
else
((loop (slices_Concat_int_int__L20 c) (([] : List Int), 0)).bind fun b => match b with
| e => some e))))
theorem slices_Concat_int_int__w (f g b ay q d) (n : MS q [d]) (m : SlR (eSl eI) q (fl [d]) f g b) (a : slices_Concat_int_int_ b = some ay) : CallVC Tryz.prog 18 [Vl f b g] q fun bb p => ∃ N aC, bb = Vl N ay aC ∧ Ev [] q p ∧ MS p [Bk N, d] ∧ FR q.heap.size [Bk N] ∧ OwnS eI 3 p (fl [Bk N, d]) N aC ay := by
 refine Cv hmx Tryz.func18 (by kernel_rfl) R (rs := [.tmp 2]) R (by kernel_rfl) (args := [Vl f b g]) R ?_
 have k : Ev [] q q := Ev.refl _ _
 have j : FR q.heap.size [] := FR.nil _
 refine Cs (Xu 1 [(2, Z0)] (Xk (Cs (Xu 1 [(3, Vi 0)] (Xk (Cq (Cs (Xu 1 [(9, Vl f b g)] (Xn (vs := [Vl f b g]) (Vi ((b).length : Int)) R R R (Rl tsl87 _ _ _ _ _) ?_)))))))))
 refine Xu 1 [(11, Vi 0)] (Xk (Cb ?_))
 obtain ⟨aI, al, aL⟩ := Bs a
 obtain ⟨ab, al⟩ := Lo al
 refine Cl (Lr hmx (σ := Nat × Int × Int) (fun o => match o with | (_, c, B) => [(0, Vl f b g), (3, Vi c), (9, Vl f b g), (10, Vi ((b).length : Int)), (11, Vi B)]) (fun o p => match o with | (Y, c, B) => loopN (slices_Concat_int_int__L3 b) Y (c, B) = some aI ∧ Ev [] q p ∧ MS p [d] ∧ FR q.heap.size [] ∧ SlR (eSl eI) p (fl [d]) f g b) (fun o => o.1) (ab, 0, 0) ⟨R, R, R, R, R, T0⟩ ⟨al, k, n, j, m⟩ ?_)
 rintro ⟨ab, c, B⟩ v aB ⟨U, k, n, j, m⟩
 rcases ab with _ | ab
 · exact (Lz U).elim
 obtain ⟨bp, a, U⟩ := Bs U
 refine Cs (Xu 1 [(12, Bd (B < ((b).length : Int)))] (Xk (Cn [(0, Vl f b g), (3, Vi c), (9, Vl f b g), (10, Vi ((b).length : Int)), (11, Vi B), (12, Bd (B < ((b).length : Int)))] (fun v => ?_))))
 refine Cq (Ci (decide (B < ((b).length : Int))) R a (fun a => ?_) (fun a => ?_))
 · refine Ck (Kt (Cq (Cb (Cs ?_))))
   obtain ⟨E, ba, a⟩ := Bs a
   obtain ⟨bg, bj, a2, aQ, O⟩ := Ri (Mo := []) tsl87 m ba
   obtain ⟨ae, ah, rfl, bm⟩ := O
   refine Yi _ _ _ R a2 (Yl _ (Vl ae E ah) R (Rc tcell22 aQ (fun _ a => by cases a)) ?_)
   refine Xu 1 [(5, Vl ae E ah)] (Xk (Cs (Xu 2 [(15, Vi c), (16, Vl ae E ah)] (Xn (vs := [Vl ae E ah]) (Vi ((E).length : Int)) R R R (Rl tsl22 _ _ _ _ _) (Xu 2 [(18, Vi (i64.wrap (c + ((E).length : Int)))), (3, Vi (i64.wrap (c + ((E).length : Int))))] (Xk (Cs (Xu 2 [(19, Vi (i64.wrap (c + ((E).length : Int)))), (20, Bd ((i64.wrap (c + ((E).length : Int))) < 0))] (Xk ?_)))))))))
   refine Ci (decide ((i64.wrap (c + ((E).length : Int))) < 0)) R a (fun a => ?_) (fun a => ?_)
   · refine Cp ?_
     cases a
   refine Ck (Kl (Kt (Cp (Xu 2 [(22, Vi (i64.wrap (B + 1))), (11, Vi (i64.wrap (B + 1)))] (Xe R ?_)))))
   obtain rfl := Sj a
   exact Kt ⟨(ab, i64.wrap (c + ((E).length : Int)), i64.wrap (B + 1)), ⟨R, R, R, R, R, T0⟩, ⟨U, k, n, j, m⟩, Ns _⟩
 refine Ce (Ke ?_)
 obtain rfl := Sj a
 have X := Sj U
 subst X
 have a := aL
 refine Ke (Ki (Kt (Cn [(0, Vl f b g), (3, Vi c)] (fun v => ?_))))
 refine Cs (Xu 1 [(23, Vi c)] (x_callin 35 #[] #[] [Z0, Vi c] R R R R (Cv hmx Tryz.func35 (by kernel_rfl) R (rs := [.tmp 4]) R (by kernel_rfl) (by kernel_rfl) ?_)))
 refine Cs (Xu 1 [(4, Z0)] (Xk (Cn [(0, Z0), (1, Vi c)] (fun v => ?_))))
 refine Cq (Cs (Xu 2 [(5, Vi c), (6, Bd (c < 0))] (Xk (Ci (decide (c < 0)) R a (fun a => ?_) (fun a => ?_)))))
 · refine Cp ?_
   cases a
 refine Ck (Kt (Cq (Cs (Xu 2 [(8, Vi c), (9, Z0)] (x_cap (vs := [Z0]) (Vi 0) R R R (reads_capnil tsl22 _ _) (Xu 1 [(11, Z0)] (Xn (vs := [Z0]) (Vi 0) R R R (Rl tsl22 _ _ _ _ _) (Xu 3 [(13, Vi (i64.wrap (0 - 0))), (14, Vi (i64.wrap (c - (i64.wrap (0 - 0))))), (1, Vi (i64.wrap (c - (i64.wrap (0 - 0)))))] (Xk ?_)))))))))
 refine Cs (Xu 2 [(15, Vi (i64.wrap (c - (i64.wrap (0 - 0))))), (16, Bd ((i64.wrap (c - (i64.wrap (0 - 0)))) > 0))] (Xk (Ci (decide ((i64.wrap (c - (i64.wrap (0 - 0)))) > 0)) R a (fun a => ?_) (fun a => ?_))))
 · refine Cp (Xu 2 [(17, Z0), (18, Z0)] (x_cap (vs := [Z0]) (Vi 0) R R R (reads_capnil tsl22 _ _) (x_slice (xv := Z0) (lv := none) (hv := (some (Vi 0))) (mv := none) (Z0) R R R R R R (reads_nilcut tsl22 .none .zero) (Xu 1 [(21, Vi (i64.wrap (c - (i64.wrap (0 - 0)))))] ?_))))
   have F := Gl a
   have a := Gr a
   obtain ⟨x, A, aF, aU, am, au, a5⟩ := own_makeZ (e := eI) (kq := .i64) tel22 tint3 22 aB (i64.wrap (c - (i64.wrap (0 - 0)))) F.1 F.2 0 (fun _ _ => R)
   refine x_builtin (vs := [Z0, Vi (i64.wrap (c - (i64.wrap (0 - 0))))]) _ aF R R R R (run_value _ _ _ _ aU) (I1 ?_)
   have H := Stp.push (ls := [d]) (l := Bk x) am (fun _ a => by cases a) (fun r s => (au r s).1)
   have m := m.step H
   have n := n.push am au
   have j := j.push (fun r s => Nat.le_trans k.size (au r s).1)
   have k := k.ext am
   have G := a5 (fl [Bk x, d])
   refine Xu 1 [(23, Z0)] (Xn (vs := [Z0]) (Vi 0) R R R (Rl tsl22 _ _ _ _ _) ?_)
   have F := Gl a
   have a := Gr a
   have aX := reads_trunc (P := Tryz.prog) (Mo := []) (w := aF) tsl22 x A (List.replicate (Int.toNat (i64.wrap (c - (i64.wrap (0 - 0))))) 0 : List Int) (0 : Int) F.1 F.2 G.le
   have G := G.trunc (Int.toNat (0 : Int))
   refine x_slice (xv := Vl x ((List.replicate (Int.toNat (i64.wrap (c - (i64.wrap (0 - 0))))) 0 : List Int)) A) (lv := none) (hv := some (Vi (0 : Int))) (mv := none) (Vl x (((List.replicate (Int.toNat (i64.wrap (c - (i64.wrap (0 - 0))))) 0 : List Int).take (Int.toNat (0 : Int)))) A) R R R R R R aX (Xu 1 [(0, Vl x (((List.replicate (Int.toNat (i64.wrap (c - (i64.wrap (0 - 0))))) 0 : List Int).take (Int.toNat (0 : Int)))) A)] (Xk (Cn [(0, Vl x (((List.replicate (Int.toNat (i64.wrap (c - (i64.wrap (0 - 0))))) 0 : List Int).take (Int.toNat (0 : Int)))) A)] (fun v => ?_))))
   refine Cs (Xu 2 [(26, Vl x (((List.replicate (Int.toNat (i64.wrap (c - (i64.wrap (0 - 0))))) 0 : List Int).take (Int.toNat (0 : Int)))) A), (4, Vl x (((List.replicate (Int.toNat (i64.wrap (c - (i64.wrap (0 - 0))))) 0 : List Int).take (Int.toNat (0 : Int)))) A)] (Xk (Cr (Rr (Rv [Vl x (((List.replicate (Int.toNat (i64.wrap (c - (i64.wrap (0 - 0))))) 0 : List Int).take (Int.toNat (0 : Int)))) A] ⟨R, T0⟩ ?_)))))
   refine I1 (Xu 1 [(6, Vl x (((List.replicate (Int.toNat (i64.wrap (c - (i64.wrap (0 - 0))))) 0 : List Int).take (Int.toNat (0 : Int)))) A)] (Xk (Cn [(0, Vl f b g), (6, Vl x (((List.replicate (Int.toNat (i64.wrap (c - (i64.wrap (0 - 0))))) 0 : List Int).take (Int.toNat (0 : Int)))) A)] (fun v => ?_))))
   refine Cq (Cs (Xu 1 [(25, Vl f b g)] (Xn (vs := [Vl f b g]) (Vi ((b).length : Int)) R R R (Rl tsl87 _ _ _ _ _) (Xu 1 [(27, Vi 0)] (Xk (Cb ?_))))))
   obtain ⟨aG, aj, aJ⟩ := Bs a
   obtain ⟨Z, aj⟩ := Lo aj
   refine Cl (Lr hmx (σ := Nat × (List Int) × Int × Option Addr × Nat) (fun o => match o with | (_, t, C, h, y) => [(6, Vl h t y), (25, Vl f b g), (26, Vi ((b).length : Int)), (27, Vi C)]) (fun o p => match o with | (Y, t, C, h, y) => loopN (slices_Concat_int_int__L13 b) Y (t, C) = some aG ∧ Ev [] q p ∧ MS p [Bk h, d] ∧ FR q.heap.size [Bk h] ∧ OwnS eI 3 p (fl [Bk h, d]) h y t ∧ SlR (eSl eI) p (fl [Bk h, d]) f g b) (fun o => o.1) (Z, ((List.replicate (Int.toNat (i64.wrap (c - (i64.wrap (0 - 0))))) 0 : List Int).take (Int.toNat (0 : Int))), 0, x, A) ⟨R, R, R, R, T0⟩ ⟨aj, k, n, j, G, m⟩ ?_)
   rintro ⟨Z, t, C, h, y⟩ v bc ⟨Q, k, n, j, G, m⟩
   rcases Z with _ | Z
   · exact (Lz Q).elim
   obtain ⟨bn, a, Q⟩ := Bs Q
   refine Cs (Xu 1 [(28, Bd (C < ((b).length : Int)))] (Xk (Cn [(6, Vl h t y), (25, Vl f b g), (26, Vi ((b).length : Int)), (27, Vi C), (28, Bd (C < ((b).length : Int)))] (fun v => ?_))))
   refine Cq (Ci (decide (C < ((b).length : Int))) R a (fun a => ?_) (fun a => ?_))
   · refine Ck (Kt (Cq (Cb (Cs ?_))))
     obtain ⟨K, a8, a⟩ := Bs a
     obtain ⟨be, bh, aY, aN, O⟩ := Ri (Mo := []) tsl87 m a8
     obtain ⟨ac, af, rfl, a3⟩ := O
     refine Yi _ _ _ R aY (Yl _ (Vl ac K af) R (Rc tcell22 aN (fun _ a => by cases a)) ?_)
     refine Xu 1 [(8, Vl ac K af)] (Xk (Cp (Xu 2 [(31, Vl h t y), (32, Vl ac K af)] ?_)))
     have F := Gl a
     have a := Gr a
     obtain ⟨I, aD, az, aZ, an, av, bk, a6⟩ := own_appendN tel22 22 G (Mf 0 R) a3 F
     refine x_builtin (vs := [Vl h t y, Vl ac K af]) _ az R R R R (run_value _ _ _ _ aZ) (I1 ?_)
     have H : Stp (fl [Bk h, d]) bc (fl [Bk I, d]) az := Stp.upd 0 an R (fun r s => (av r s).1)
     have m := m.step H
     replace n : MS az [Bk I, d] := n.upd 0 an R av
     have aq : FR q.heap.size [Bk I] := j.upd 0 R k.size (fun r s => (av r s).1)
     have k := k.then an (fun r s => .inr (j.at 0 R r s))
     have j := aq
     have G := a6 (fl [Bk I, d]) H.new
     refine Xu 1 [(6, Vl I ((t ++ K)) aD)] (Xe R (Kl (Kt (Cp (Xu 2 [(34, Vi (i64.wrap (C + 1))), (27, Vi (i64.wrap (C + 1)))] (Xe R ?_))))))
     obtain rfl := Sj a
     exact Kt ⟨(Z, (t ++ K), i64.wrap (C + 1), I, aD), ⟨R, R, R, R, T0⟩, ⟨Q, k, n, j, G, m⟩, Ns _⟩
   refine Ce (Ke ?_)
   obtain rfl := Sj a
   have X := Sj Q
   subst X
   have a := aJ
   refine Ke (Ki (Kt (Cn [(6, Vl h t y)] (fun v => ?_))))
   refine Cs (Xu 2 [(35, Vl h t y), (2, Vl h t y)] (Xk (Cr (Rr (Rv [Vl h t y] ⟨R, T0⟩ ?_)))))
   obtain rfl := Sj a
   have ar := n.pk [0, 1] [Bk h, d] R
   have ax := Pk (ls := [Bk h, d]) [0, 1] [Bk h, d] R
   have ap := j.pk [0] [Bk h] R
   exact ⟨h, y, R, k, ar, ap, G.sub ax⟩
 refine Ck (Kt (Cn [(0, Z0)] (fun v => ?_)))
 refine Cs (Xu 2 [(26, Z0), (4, Z0)] (Xk (Cr (Rr (Rv [Z0] ⟨R, T0⟩ ?_)))))
 refine I1 (Xu 1 [(6, Z0)] (Xk (Cn [(0, Vl f b g), (6, Z0)] (fun v => ?_))))
 refine Cq (Cs (Xu 1 [(25, Vl f b g)] (Xn (vs := [Vl f b g]) (Vi ((b).length : Int)) R R R (Rl tsl87 _ _ _ _ _) (Xu 1 [(27, Vi 0)] (Xk (Cb ?_))))))
 have H := Stp.push (ls := [d]) (l := Bk none) (Ev.refl [] aB) (fun _ a => by cases a) (fun _ a => by cases a)
 have m := m.step H
 have n := n.push (l := Bk none) (Ev.refl [] _) (fun _ a => by cases a)
 have j := j.push (l := Bk none) (fun _ a => by cases a)
 have aS := OwnS.nil eI 3 aB (fl [Bk none, d])
 obtain ⟨aH, ak, aK⟩ := Bs a
 obtain ⟨aa, ak⟩ := Lo ak
 refine Cl (Lr hmx (σ := Nat × (List Int) × Int × Option Addr × Nat) (fun o => match o with | (_, u, D, i, z) => [(6, Vl i u z), (25, Vl f b g), (26, Vi ((b).length : Int)), (27, Vi D)]) (fun o p => match o with | (Y, u, D, i, z) => loopN (slices_Concat_int_int__L20 b) Y (u, D) = some aH ∧ Ev [] q p ∧ MS p [Bk i, d] ∧ FR q.heap.size [Bk i] ∧ OwnS eI 3 p (fl [Bk i, d]) i z u ∧ SlR (eSl eI) p (fl [Bk i, d]) f g b) (fun o => o.1) (aa, ([] : List Int), 0, none, 0) ⟨R, R, R, R, T0⟩ ⟨ak, k, n, j, aS, m⟩ ?_)
 rintro ⟨aa, u, D, i, z⟩ v bd ⟨S, k, n, j, ai, m⟩
 rcases aa with _ | aa
 · exact (Lz S).elim
 obtain ⟨bo, a, S⟩ := Bs S
 refine Cs (Xu 1 [(28, Bd (D < ((b).length : Int)))] (Xk (Cn [(6, Vl i u z), (25, Vl f b g), (26, Vi ((b).length : Int)), (27, Vi D), (28, Bd (D < ((b).length : Int)))] (fun v => ?_))))
 refine Cq (Ci (decide (D < ((b).length : Int))) R a (fun a => ?_) (fun a => ?_))
 · refine Ck (Kt (Cq (Cb (Cs ?_))))
   obtain ⟨L, a9, a⟩ := Bs a
   obtain ⟨bf, bi, a0, aO, O⟩ := Ri (Mo := []) tsl87 m a9
   obtain ⟨ad, ag, rfl, a4⟩ := O
   refine Yi _ _ _ R a0 (Yl _ (Vl ad L ag) R (Rc tcell22 aO (fun _ a => by cases a)) ?_)
   refine Xu 1 [(8, Vl ad L ag)] (Xk (Cp (Xu 2 [(31, Vl i u z), (32, Vl ad L ag)] ?_)))
   have F := Gl a
   have a := Gr a
   obtain ⟨J, aE, aA, a1, ao, aw, bl, a7⟩ := own_appendN tel22 22 ai (Mf 0 R) a4 F
   refine x_builtin (vs := [Vl i u z, Vl ad L ag]) _ aA R R R R (run_value _ _ _ _ a1) (I1 ?_)
   have H : Stp (fl [Bk i, d]) bd (fl [Bk J, d]) aA := Stp.upd 0 ao R (fun r s => (aw r s).1)
   have m := m.step H
   replace n : MS aA [Bk J, d] := n.upd 0 ao R aw
   have aq : FR q.heap.size [Bk J] := j.upd 0 R k.size (fun r s => (aw r s).1)
   have k := k.then ao (fun r s => .inr (j.at 0 R r s))
   have j := aq
   have ai := a7 (fl [Bk J, d]) H.new
   refine Xu 1 [(6, Vl J ((u ++ L)) aE)] (Xe R (Kl (Kt (Cp (Xu 2 [(34, Vi (i64.wrap (D + 1))), (27, Vi (i64.wrap (D + 1)))] (Xe R ?_))))))
   obtain rfl := Sj a
   exact Kt ⟨(aa, (u ++ L), i64.wrap (D + 1), J, aE), ⟨R, R, R, R, T0⟩, ⟨S, k, n, j, ai, m⟩, Ns _⟩
 refine Ce (Ke ?_)
 obtain rfl := Sj a
 have X := Sj S
 subst X
 have a := aK
 refine Ke (Ki (Kt (Cn [(6, Vl i u z)] (fun v => ?_))))
 refine Cs (Xu 2 [(35, Vl i u z), (2, Vl i u z)] (Xk (Cr (Rr (Rv [Vl i u z] ⟨R, T0⟩ ?_)))))
 obtain rfl := Sj a
 have ar := n.pk [0, 1] [Bk i, d] R
 have ax := Pk (ls := [Bk i, d]) [0, 1] [Bk i, d] R
 have ap := j.pk [0] [Bk i] R
 exact ⟨i, z, R, k, ar, ap, ai.sub ax⟩
def slices_Clone_humpyard_api_Piece_humpyard_api_Piece_ (a : List (Int × Int × Int × Int × Int)) : Option (List (Int × Int × Int × Int × Int)) :=
(if ([] : List (Int × Int × Int × Int × Int)).length + a.length ≤ 4294967296 then
some (([] : List (Int × Int × Int × Int × Int)) ++ a)
else none)
theorem slices_Clone_humpyard_api_Piece_humpyard_api_Piece__w (h j e p g a) (n : MS g [a]) (q : SlR (eProd eI (eIt4)) g (fl [a]) h j e) (d : slices_Clone_humpyard_api_Piece_humpyard_api_Piece_ e = some p) : CallVC Tryz.prog 22 [Vl h e j] g fun U B => ∃ o E, U = Vl o p E ∧ Ev [] g B ∧ MS B [Bk o, a] ∧ FR g.heap.size [Bk o] ∧ OwnS (eProd eI (eIt4)) 35 B (fl [Bk o, a]) o E p := by
 refine Cv hmx Tryz.func22 (by kernel_rfl) R (rs := [.tmp 2]) R (by kernel_rfl) (args := [Vl h e j]) R ?_
 have i : Ev [] g g := Ev.refl _ _
 have k : FR g.heap.size [] := FR.nil _
 refine Cs (Xu 1 [(2, Z0)] (Xk (Cq (Cs (Xu 1 [(3, Vl h e j)] (x_binop (.bool h.isNone) (Vl h e j) (Z0) R R R R (vb_slnil tuns32 _ _ _) (Xk (c_cond h.isNone R (fun b => ?_) (fun b => ?_)))))))))
 · have K := SlR.nil_of q b
   replace d : (if ([] : List (Int × Int × Int × Int × Int)).length + e.length ≤ 4294967296 then
some (([] : List (Int × Int × Int × Int × Int)) ++ e)
else none) = some p := d
   replace d : some ([]) = some p := by rw [K] at d; simpa using d
   refine Cs (Xu 1 [(2, Z0)] (Xk (Cr (Kr (Rr (Rv [Z0] ⟨R, T0⟩ ?_))))))
   obtain rfl := Sj d
   have w := n.pick [none, some 0] [Bk none, a] R
   have v := k.pick [none] [Bk none] R
   exact ⟨none, 0, R, i, w, v, OwnS.nil _ _ _ _⟩
 refine Ck (Kt (Cs (Xb (vs := []) #[] 35 R R R (by kernel_rfl) (fun H C L F t Y => ?_))))
 refine I1 ?_
 obtain ⟨m, s⟩ : ∃ G, G = some (⟨H, 0, none⟩ : Addr) := ⟨_, R⟩
 have Q : ∀ a, OwnS (eProd eI (eIt4)) 35 C a m 0 ([] : List (Int × Int × Int × Int × Int)) := fun a => s ▸ own_of_box F (by decide) R R (cells_at (cs := []) CellsOf.nil)
 have x : ∀ c ∈ Bk m, g.heap.size ≤ c ∧ c < C.heap.size := by subst s; intro c b; simp only [Bk, blk, List.mem_singleton] at b; subst b; exact ⟨Nat.le_of_eq L.symm, lt_of_heap F⟩
 have A := Stp.push (ls := [a]) (l := Bk m) t (fun _ d => by cases d) (fun c b => (x c b).1)
 have q := q.step A
 have n := n.push t x
 have k := k.push (fun c b => Nat.le_trans i.size (x c b).1)
 have i := i.ext t
 have z := Q (fl [Bk m, a])
 rw [← s]
 refine Xu 1 [(6, Vl h e j)] ?_
 have J := Gl d
 have d := Gr d
 obtain ⟨f, r, D, N, u, y, X, S⟩ := own_appendN tel32 32 z (Mf 0 R) q J
 refine x_builtin (vs := [Vl m (([] : List (Int × Int × Int × Int × Int))) 0, Vl h e j]) _ D R R R R (run_value _ _ _ _ N) (I1 ?_)
 have A : Stp (fl [Bk m, a]) C (fl [Bk f, a]) D := Stp.upd 0 u R (fun c b => (y c b).1)
 replace n : MS D [Bk f, a] := n.upd 0 u R y
 have I : FR g.heap.size [Bk f] := k.upd 0 R i.size (fun c b => (y c b).1)
 have i := i.then u (fun c b => .inr (k.at 0 R c b))
 have k := I
 have z := S (fl [Bk f, a]) A.new
 refine Xu 1 [(2, Vl f ((([] : List (Int × Int × Int × Int × Int)) ++ e)) r)] (Xk (Cr (Rr (Rv [Vl f ((([] : List (Int × Int × Int × Int × Int)) ++ e)) r] ⟨R, T0⟩ ?_))))
 obtain rfl := Sj d
 have w := n.pk [0, 1] [Bk f, a] R
 have O := Pk (ls := [Bk f, a]) [0, 1] [Bk f, a] R
 have v := k.pk [0] [Bk f] R
 exact ⟨f, r, R, i, w, v, z.sub O⟩
end Go.Proofs.YtfhkfjankgikcaaGreat
