
/- Walks, printed by program: each function returns what the partial function of the same name returns. Conditions: those of each theorem. -/
import Derived.Test.YtlgdhajakblkaaaGreatDoorGT
set_option linter.unusedVariables false
set_option linter.unusedSimpArgs false
set_option maxRecDepth 4000
namespace Go.Proofs.YtlgdhajakblkaaaGreatDoor
open Go Go.V Go.Proofs Go.IntKind
def resistance_Rolling_1 (a : Int) (b : List (Int × Int × Int)) (c : Int) : Option Bool :=
((idx b a).bind fun d =>
some (decide (d.1 > c)))
theorem resistance_Rolling_1_w (n b g h f c d r a q) (s : MS a [[b], [c], q]) (m : SlR (eProd eI (eProd eI eI)) a (fl [[b], [c], q]) g h f) (i : a.heap[b]? = some (.cells #[Vl g f h] 42 (0, 0))) (j : a.heap[c]? = some (.cells #[Vi d] 3 (0, 0))) (k : resistance_Rolling_1 n f d = some r) : CallVC Tryz.prog 68 [Vi n, Vp b 0, Vp c 0] a fun u o => u = .bool r ∧ Ev [b, c] a o ∧ o.heap[b]? = some (.cells #[Vl g f h] 42 (0, 0)) ∧ o.heap[c]? = some (.cells #[Vi d] 3 (0, 0)) := by
 refine Cw hmx Tryz.func68 R R R ?_
 have l := Ev.refl [b, c] a
 refine Cs (Xu 1 [(4, .bool false)] (Xk (Cq (Cd [] [(0, false), (1, false), (2, false), (3, false), (4, false), (5, false), (6, false), (7, false)] _ (by kernel_rfl) R ?_))))
 obtain ⟨m, i, j, l⟩ := E4 (Cx.e s (Ev.drew a)) m i j l
 refine Yl _ (Vl g f h) R (Rb tcell42 i nn 0 _ R) (Xu 1 [(6, Vi n)] ?_)
 obtain ⟨p, t, k⟩ := Bs k
 refine Xq (m.el tsl42) tfld108_0 tcell3 t R (fun _ => R) (fun _ => Yl _ (Vi d) R (Rb tcell3 j nn 0 _ R) (Xu 2 [(11, Bd (p.1 > d)), (4, Bd (p.1 > d))] (Xk (Cr (Rz (Bd (p.1 > d)) R ?_)))))
 obtain rfl := Sj k
 exact ⟨R, l, i, j⟩
def sort_Search_L4 (c : List (Int × Int × Int)) (d : Int) (e : Int × Int) : Option (Step (Int × Int) Int) :=
match e with
| (a, b) =>
(if (decide (a < b)) = true then
((resistance_Rolling_1 (i64.wrap (Int.fdiv (u64.wrap (i64.wrap (a + b))) (2 ^ (min (Int.toNat (1)) u64.bits)))) c d).bind fun f =>
(if (!f) = true then
some (.next (i64.wrap ((i64.wrap (Int.fdiv (u64.wrap (i64.wrap (a + b))) (2 ^ (min (Int.toNat (1)) u64.bits)))) + 1), b))
else
some (.next (a, i64.wrap (Int.fdiv (u64.wrap (i64.wrap (a + b))) (2 ^ (min (Int.toNat (1)) u64.bits)))))))
else
some (.done a))
def sort_Search (c : Int) (d : List (Int × Int × Int)) (e : Int) : Option Int :=
((loop (sort_Search_L4 d e) (0, c)).bind fun a => match a with
| b => some b)
theorem sort_Search_w (s c n o i d r z f u) (h : MS f [[c], [d], u]) (m : SlR (eProd eI (eProd eI eI)) f (fl [[c], [d], u]) n o i) (j : f.heap[c]? = some (.cells #[Vl n i o] 42 (0, 0))) (k : f.heap[d]? = some (.cells #[Vi r] 3 (0, 0))) (e : sort_Search s i r = some z) : CallVC Tryz.prog 67 [Vi s, (.func (.func 68) #[] #[Vp c 0, Vp d 0])] f fun A g => A = Vi z ∧ Ev [c, d] f g ∧ g.heap[c]? = some (.cells #[Vl n i o] 42 (0, 0)) ∧ g.heap[d]? = some (.cells #[Vi r] 3 (0, 0)) := by
 refine Cw hmx Tryz.func67 R R R ?_
 have l := Ev.refl [c, d] f
 have v := FR.nil f.heap.size
 refine Cs (Xu 1 [(4, Vi 0)] (Xk (Cs (Xu 3 [(8, Vi s), (5, Vi 0), (6, Vi s)] (Xk (Cq (Cb ?_)))))))
 obtain ⟨B, w, C⟩ := Bs e
 obtain ⟨q, w⟩ := Lo w
 refine Cl (Lr hmx (σ := Nat × Int × Int) (fun t => match t with | (_, a, b) => [(1, (.func (.func 68) #[] #[Vp c 0, Vp d 0])), (5, Vi a), (6, Vi b)]) (fun t g => match t with | (K, a, b) => loopN (sort_Search_L4 i r) K (a, b) = some B ∧ Ev [c, d] f g ∧ MS g [[c], [d], u] ∧ FR f.heap.size [] ∧ SlR (eProd eI (eProd eI eI)) g (fl [[c], [d], u]) n o i ∧ g.heap[c]? = some (.cells #[Vl n i o] 42 (0, 0)) ∧ g.heap[d]? = some (.cells #[Vi r] 3 (0, 0))) (fun t => t.1) (q, 0, s) ⟨R, R, R, T0⟩ ⟨w, l, h, v, m, j, k⟩ ?_)
 rintro ⟨q, a, b⟩ x L ⟨p, l, h, v, m, j, k⟩
 rcases q with _ | q
 · exact (Lz p).elim
 obtain ⟨O, e, p⟩ := Bs p
 refine Cq (Cs (Xu 3 [(9, Vi a), (10, Vi b), (11, Bd (a < b))] (Xk (Cn [(1, (.func (.func 68) #[] #[Vp c 0, Vp d 0])), (5, Vi a), (6, Vi b), (11, Bd (a < b))] (fun x => ?_)))))
 refine Ci _ R e (fun e => ?_) (fun e => ?_)
 · refine Ck (Kt (Cb (Cs (Xu 3 [(12, Vi a), (13, Vi b), (14, Vi (i64.wrap (a + b)))] (x_convert (.int .u64 (u64.wrap (i64.wrap (a + b)))) _ R R R (tcv3_183 (i64.wrap (a + b)) _) (I1 (Xu 1 [(16, .int .u64 (Int.fdiv (u64.wrap (i64.wrap (a + b))) (2 ^ (min (Int.toNat (1)) u64.bits))))] (x_convert (Vi (i64.wrap (Int.fdiv (u64.wrap (i64.wrap (a + b))) (2 ^ (min (Int.toNat (1)) u64.bits))))) _ R R R (tcv183_3 (Int.fdiv (u64.wrap (i64.wrap (a + b))) (2 ^ (min (Int.toNat (1)) u64.bits))) _) (I1 ?_)))))))))
   refine Xu 1 [(7, Vi (i64.wrap (Int.fdiv (u64.wrap (i64.wrap (a + b))) (2 ^ (min (Int.toNat (1)) u64.bits)))))] (Xk (Cs (Xu 2 [(18, (.func (.func 68) #[] #[Vp c 0, Vp d 0])), (19, Vi (i64.wrap (Int.fdiv (u64.wrap (i64.wrap (a + b))) (2 ^ (min (Int.toNat (1)) u64.bits)))))] ?_)))
   obtain ⟨N, I, e⟩ := Bs e
   obtain ⟨G, H⟩ := Kc h [0, 1] [2]
   have D := resistance_Rolling_1_w (i64.wrap (Int.fdiv (u64.wrap (i64.wrap (a + b))) (2 ^ (min (Int.toNat (1)) u64.bits)))) c n o i d r _ L _ G (m.sub H) j k I
   refine Xc 68 #[] #[Vp c 0, Vp d 0] [Vi (i64.wrap (Int.fdiv (u64.wrap (i64.wrap (a + b))) (2 ^ (min (Int.toNat (1)) u64.bits)))), Vp c 0, Vp d 0] _ R R R R D ?_
   rintro A Q ⟨rfl, y, E, F⟩
   refine I1 ?_
   obtain ⟨m, h⟩ := E2 (Cx.c0 h [0, 1] y) m h
   have l := l.tv y
   have j := E
   have k := F
   refine Xu 1 [(21, .bool (!N))] (Xk (Ci _ R e (fun e => ?_) (fun e => ?_)))
   · refine Cp (Xu 3 [(22, Vi (i64.wrap (Int.fdiv (u64.wrap (i64.wrap (a + b))) (2 ^ (min (Int.toNat (1)) u64.bits))))), (23, Vi (i64.wrap ((i64.wrap (Int.fdiv (u64.wrap (i64.wrap (a + b))) (2 ^ (min (Int.toNat (1)) u64.bits)))) + 1))), (5, Vi (i64.wrap ((i64.wrap (Int.fdiv (u64.wrap (i64.wrap (a + b))) (2 ^ (min (Int.toNat (1)) u64.bits)))) + 1)))] (Xe R (Kl ?_)))
     obtain rfl := Sj e
     exact Kt ⟨(q, i64.wrap ((i64.wrap (Int.fdiv (u64.wrap (i64.wrap (a + b))) (2 ^ (min (Int.toNat (1)) u64.bits)))) + 1), b), ⟨R, R, R, T0⟩, ⟨p, l, h, v, m, j, k⟩, Ns _⟩
   refine Cp (Xu 2 [(24, Vi (i64.wrap (Int.fdiv (u64.wrap (i64.wrap (a + b))) (2 ^ (min (Int.toNat (1)) u64.bits))))), (6, Vi (i64.wrap (Int.fdiv (u64.wrap (i64.wrap (a + b))) (2 ^ (min (Int.toNat (1)) u64.bits)))))] (Xe R (Kl ?_)))
   obtain rfl := Sj e
   exact Kt ⟨(q, a, i64.wrap (Int.fdiv (u64.wrap (i64.wrap (a + b))) (2 ^ (min (Int.toNat (1)) u64.bits)))), ⟨R, R, R, T0⟩, ⟨p, l, h, v, m, j, k⟩, Ns _⟩
 refine Ce (Ke ?_)
 obtain rfl := Sj e
 have J := Sj p
 subst J
 have e := C
 refine Ke (Ki (Kt (Cn [(5, Vi a)] (fun x => ?_))))
 refine Cs (Xu 2 [(25, Vi a), (4, Vi a)] (Xk (Cr (Rz (Vi a) R ?_))))
 obtain rfl := Sj e
 exact ⟨R, l, j, k⟩
end Go.Proofs.YtlgdhajakblkaaaGreatDoor
