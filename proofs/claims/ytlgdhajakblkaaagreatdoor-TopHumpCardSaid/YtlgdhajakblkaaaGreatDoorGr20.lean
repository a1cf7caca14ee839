
/- Walks, printed by program: each function returns what the partial function of the same name returns. Conditions: those of each theorem. -/
import Derived.Test.YtlgdhajakblkaaaGreatDoorGT
set_option linter.unusedVariables false
set_option linter.unusedSimpArgs false
set_option maxRecDepth 4000
namespace Go.Proofs.YtlgdhajakblkaaaGreatDoor
open Go Go.V Go.Proofs Go.IntKind
def r20_Retarders_L2 (c : List (Int × Int × Int × Int × Int)) (d : Int × Int) : Option (Step (Int × Int) Int) :=
match d with
| (b, a) =>
(if (decide (a < ((c).length : Int))) = true then
((idx c a).bind fun e =>
(if (decide (e.2.2.2.2 > 0)) = true then
some (.next (i64.wrap (b + 1), i64.wrap (a + 1)))
else
some (.next (b, i64.wrap (a + 1)))))
else
some (.done b))
def r20_Retarders (c : List (Int × Int × Int × Int × Int)) : Option Int :=
((loop (r20_Retarders_L2 c) (0, 0)).bind fun a => match a with
| b => some b)
theorem r20_Retarders_w (f g d s e n) (p : MS e [n]) (k : SlR (eProd eI (eIt4)) e (fl [n]) f g d) (b : r20_Retarders d = some s) : CallVC Tryz.prog 43 [Vl f d g] e fun y m => y = Vi s ∧ Ev [] e m := by
 refine Cw hmx Tryz.func43 R R R ?_
 have j := Ev.refl [] e
 have o := FR.nil e.heap.size
 refine Cs (Xu 1 [(2, Vi 0)] (Xk (Cs (Xu 1 [(3, Vi 0)] (Xk (Cq (Cs (Xu 1 [(4, Vi 0)] (Xk ?_)))))))))
 refine Cb ?_
 obtain ⟨t, q, u⟩ := Bs b
 obtain ⟨i, q⟩ := Lo q
 refine Cl (Lr hmx (σ := Nat × Int × Int) (fun l => match l with | (_, c, a) => [(0, Vl f d g), (3, Vi c), (4, Vi a)]) (fun l m => match l with | (x, c, a) => loopN (r20_Retarders_L2 d) x (c, a) = some t ∧ Ev [] e m ∧ MS m [n] ∧ FR e.heap.size [] ∧ SlR (eProd eI (eIt4)) m (fl [n]) f g d) (fun l => l.1) (i, 0, 0) ⟨R, R, R, T0⟩ ⟨q, j, p, o, k⟩ ?_)
 rintro ⟨i, c, a⟩ r B ⟨h, j, p, o, k⟩
 rcases i with _ | i
 · exact (Lz h).elim
 obtain ⟨A, b, h⟩ := Bs h
 refine Cq (Cs (Xu 2 [(5, Vi a), (6, Vl f d g)] (Xz tsl35 R (Xu 1 [(8, Bd (a < ((d).length : Int)))] (Xk (Cn [(0, Vl f d g), (3, Vi c), (4, Vi a), (8, Bd (a < ((d).length : Int)))] (fun r => ?_)))))))
 refine Ci _ R b (fun b => ?_) (fun b => ?_)
 · refine Ck (Kt (Cq (Cb (Cs (Xu 2 [(11, Vl f d g), (12, Vi a)] ?_)))))
   obtain ⟨z, v, b⟩ := Bs b
   refine Xq (k.el tsl35) tfld102_4 tcell3 v R (fun _ => R) (fun _ => Xu 1 [(16, Bd (z.2.2.2.2 > 0))] (Xk (Ci _ R b (fun b => ?_) (fun b => ?_))))
   · refine Cp (Xu 3 [(17, Vi c), (18, Vi (i64.wrap (c + 1))), (3, Vi (i64.wrap (c + 1)))] (Xe R (Kl (Kt (Cp (Xu 3 [(9, Vi a), (10, Vi (i64.wrap (a + 1))), (4, Vi (i64.wrap (a + 1)))] (Xe R ?_)))))))
     obtain rfl := Sj b
     exact Kt ⟨(i, i64.wrap (c + 1), i64.wrap (a + 1)), ⟨R, R, R, T0⟩, ⟨h, j, p, o, k⟩, Ns _⟩
   refine Ck (Kl (Kt (Cp (Xu 3 [(9, Vi a), (10, Vi (i64.wrap (a + 1))), (4, Vi (i64.wrap (a + 1)))] (Xe R ?_)))))
   obtain rfl := Sj b
   exact Kt ⟨(i, c, i64.wrap (a + 1)), ⟨R, R, R, T0⟩, ⟨h, j, p, o, k⟩, Ns _⟩
 refine Ce (Ke ?_)
 obtain rfl := Sj b
 have w := Sj h
 subst w
 have b := u
 refine Ke (Ki (Kt (Cn [(3, Vi c)] (fun r => ?_))))
 refine Cs (Xu 2 [(19, Vi c), (2, Vi c)] (Xk (Cr (Rz (Vi c) R ?_))))
 obtain rfl := Sj b
 exact ⟨R, j⟩
end Go.Proofs.YtlgdhajakblkaaaGreatDoor
