
/- Walks, printed by program: each function returns what the partial function of the same name returns. Conditions: those of each theorem. -/
import Derived.Test.YtfhkfjankgikcaaGreatGT
set_option linter.unusedVariables false
set_option linter.unusedSimpArgs false
set_option maxRecDepth 4000
namespace Go.Proofs.YtfhkfjankgikcaaGreat
open Go Go.V Go.Proofs Go.IntKind
def r20_Retarders_L2 (c : List (Int × Int × Int × Int × Int)) (d : Int × Int) : Option (Step (Int × Int) Int) :=
match d with
| (b, a) =>
(if (decide (a < ((c).length : Int))) = true then
((idx c a).bind fun e =>
(if (decide (e.2.2.2.2 > 0)) = true then
some (.next (i64.wrap (b + 1), i64.wrap (a + 1)))
else
some (.next (b, i64.wrap (a + 1)))))
else
some (.done b))
def r20_Retarders (c : List (Int × Int × Int × Int × Int)) : Option Int :=
((loop (r20_Retarders_L2 c) (0, 0)).bind fun a => match a with
| b => some b)
theorem r20_Retarders_w (e f c u g n) (p : MS g [n]) (k : SlR (eProd eI (eIt4)) g (fl [n]) e f c) (b : r20_Retarders c = some u) : CallVC Tryz.prog 20 [Vl e c f] g fun D m => D = Vi u ∧ Ev [] g m := by
 refine Cv hmx Tryz.func20 (by kernel_rfl) R (rs := [.tmp 2]) R (by kernel_rfl) (args := [Vl e c f]) R ?_
 have j : Ev [] g g := Ev.refl _ _
 have o : FR g.heap.size [] := FR.nil _
 refine Cs (Xu 1 [(2, Vi 0)] (Xk (Cs (Xu 1 [(3, Vi 0)] (Xk (Cq (Cs (Xu 1 [(4, Vi 0)] (Xk ?_)))))))))
 refine Cb ?_
 obtain ⟨v, r, w⟩ := Bs b
 obtain ⟨i, r⟩ := Lo r
 refine Cl (Lr hmx (σ := Nat × Int × Int) (fun l => match l with | (_, d, a) => [(0, Vl e c f), (3, Vi d), (4, Vi a)]) (fun l m => match l with | (C, d, a) => loopN (r20_Retarders_L2 c) C (d, a) = some v ∧ Ev [] g m ∧ MS m [n] ∧ FR g.heap.size [] ∧ SlR (eProd eI (eIt4)) m (fl [n]) e f c) (fun l => l.1) (i, 0, 0) ⟨R, R, R, T0⟩ ⟨r, j, p, o, k⟩ ?_)
 rintro ⟨i, d, a⟩ t G ⟨h, j, p, o, k⟩
 rcases i with _ | i
 · exact (Lz h).elim
 obtain ⟨F, b, h⟩ := Bs h
 refine Cq (Cs (Xu 2 [(5, Vi a), (6, Vl e c f)] (Xn (vs := [Vl e c f]) (Vi ((c).length : Int)) R R R (Rl tsl32 _ _ _ _ _) (Xu 1 [(8, Bd (a < ((c).length : Int)))] (Xk (Cn [(0, Vl e c f), (3, Vi d), (4, Vi a), (8, Bd (a < ((c).length : Int)))] (fun t => ?_)))))))
 refine Ci (decide (a < ((c).length : Int))) R b (fun b => ?_) (fun b => ?_)
 · refine Ck (Kt (Cq (Cb (Cs (Xu 2 [(11, Vl e c f), (12, Vi a)] ?_)))))
   obtain ⟨s, A, b⟩ := Bs b
   obtain ⟨q, E, z, y, x⟩ := Ri (Mo := []) tsl32 k A
   obtain ⟨_, _, rfl, rfl, ⟨_, _, rfl, rfl, ⟨_, _, rfl, rfl, ⟨_, _, rfl, rfl, rfl⟩⟩⟩⟩ := x
   refine Yi _ _ _ R z (Yf (.pointer (some q)) (.pointer (some (Addr.add q 4))) R (Rf tfld35_4 _ _) (Yl (.pointer (some (Addr.add q 4))) (Vi s.2.2.2.2) R (reads_cell tcell3 y (fun _ b => by cases b) 4 _ R) ?_))
   refine Xu 1 [(16, Bd (s.2.2.2.2 > 0))] (Xk (Ci (decide (s.2.2.2.2 > 0)) R b (fun b => ?_) (fun b => ?_)))
   · refine Cp (Xu 3 [(17, Vi d), (18, Vi (i64.wrap (d + 1))), (3, Vi (i64.wrap (d + 1)))] (Xe R (Kl (Kt (Cp (Xu 3 [(9, Vi a), (10, Vi (i64.wrap (a + 1))), (4, Vi (i64.wrap (a + 1)))] (Xe R ?_)))))))
     obtain rfl := Sj b
     exact Kt ⟨(i, i64.wrap (d + 1), i64.wrap (a + 1)), ⟨R, R, R, T0⟩, ⟨h, j, p, o, k⟩, Ns _⟩
   refine Ck (Kl (Kt (Cp (Xu 3 [(9, Vi a), (10, Vi (i64.wrap (a + 1))), (4, Vi (i64.wrap (a + 1)))] (Xe R ?_)))))
   obtain rfl := Sj b
   exact Kt ⟨(i, d, i64.wrap (a + 1)), ⟨R, R, R, T0⟩, ⟨h, j, p, o, k⟩, Ns _⟩
 refine Ce (Ke ?_)
 obtain rfl := Sj b
 have B := Sj h
 subst B
 have b := w
 refine Ke (Ki (Kt (Cn [(3, Vi d)] (fun t => ?_))))
 refine Cs (Xu 2 [(19, Vi d), (2, Vi d)] (Xk (Cr (Rr (Rv [Vi d] ⟨R, T0⟩ ?_)))))
 obtain rfl := Sj b
 exact ⟨R, j⟩
end Go.Proofs.YtfhkfjankgikcaaGreat
