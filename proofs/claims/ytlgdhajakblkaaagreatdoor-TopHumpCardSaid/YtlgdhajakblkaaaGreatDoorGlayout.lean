
/- Walks, printed by program: each function returns what the partial function of the same name returns. Conditions: those of each theorem. -/
import Derived.Test.YtlgdhajakblkaaaGreatDoorGT
import Derived.Test.YtlgdhajakblkaaaGreatDoorGstrings
set_option linter.unusedVariables false
set_option linter.unusedSimpArgs false
set_option maxRecDepth 4000
namespace Go.Proofs.YtlgdhajakblkaaaGreatDoor
open Go Go.V Go.Proofs Go.IntKind
def layout_name_L2 (c : List UInt8) (d : Int) : Option (Step Int (Unit ⊕ Unit)) :=
match d with
| b =>
(if (decide (b < (c.length : Int))) = true then
((sAt c b).bind fun a =>
(if (decide (a < 97)) = true then
(if (decide (a < 48)) = true then
some (.done (.inl ()))
else
(if (decide (a > 57)) = true then
some (.done (.inl ()))
else
some (.next (i64.wrap (b + 1)))))
else
(if (decide (a > 122)) = true then
(if (decide (a < 48)) = true then
some (.done (.inl ()))
else
(if (decide (a > 57)) = true then
some (.done (.inl ()))
else
some (.next (i64.wrap (b + 1)))))
else
some (.next (i64.wrap (b + 1))))))
else
some (.done (.inr ())))
def layout_name (a : List UInt8) : Option Bool :=
((loop (layout_name_L2 a) 0).bind fun b => match b with
| (.inl _) => some false
| (.inr _) => (if (decide ((a.length : Int) > 0)) = true then
some (decide ((a.length : Int) ≤ 12))
else
some false))
theorem layout_name_w (b q j) (a : layout_name b = some q) : CallVC Tryz.prog 63 [Vs b] j fun u o => u = .bool q ∧ Ev [] j o := by
 refine Cw hmx Tryz.func63 R R R ?_
 have e := Ev.refl [] j
 have m := MS.one j
 have l := FR.nil j.heap.size
 refine Cs (Xu 1 [(2, .bool false)] (Xk (Cq (Cs (Xu 1 [(3, Vi 0)] (Xk (Cb ?_)))))))
 obtain ⟨r, p, k⟩ := Bs a
 obtain ⟨i, p⟩ := Lo p
 refine Cl (Lr hmx (σ := Nat × Int) (fun n => match n with | (_, c) => [(0, Vs b), (3, Vi c)]) (fun n o => match n with | (t, c) => loopN (layout_name_L2 b) t c = some r ∧ Ev [] j o ∧ MS o [[]] ∧ FR j.heap.size []) (fun n => n.1) (i, 0) ⟨R, R, T0⟩ ⟨p, e, m, l⟩ ?_)
 rintro ⟨i, c⟩ h w ⟨f, e, m, l⟩
 rcases i with _ | i
 · exact (Lz f).elim
 obtain ⟨v, a, f⟩ := Bs f
 refine Cq (Cs (Xu 2 [(5, Vi c), (6, Vs b)] (Xn (vs := [Vs b]) (Vi (b.length : Int)) R R R (reads_slen tstr9 _) (Xu 1 [(8, Bd (c < (b.length : Int)))] (Xk (Cn [(0, Vs b), (3, Vi c), (8, Bd (c < (b.length : Int)))] (fun h => ?_)))))))
 refine Ci _ R a (fun a => ?_) (fun a => ?_)
 · refine Ck (Kt (Cq (Cb (Cs (Xu 2 [(11, Vs b), (12, Vi c)] ?_)))))
   obtain ⟨d, s, a⟩ := Bs a
   refine x_index (xv := Vs b) (yv := Vi c) (.int .u8 d) R R R R (reads_sindex tstr9 s) (Xu 1 [(4, .int .u8 d)] (Xk (Cs (Xu 3 [(14, .int .u8 d), (15, Bd (d < 97)), (16, Bd (d < 97))] (Xw 16 _ R a (fun a => ?_) (fun a => ?_))))))
   · refine Xu 7 [(17, U0), (18, U0), (19, .bool true), (20, .bool true), (21, .int .u8 d), (22, Bd (d < 48)), (23, Bd (d < 48))] (Xw 23 _ R a (fun a => ?_) (fun a => ?_))
     · refine Xu 4 [(24, U0), (25, U0), (26, .bool true), (27, .bool true)] (Xk (c_true R (Cs (Xu 1 [(2, .bool false)] (Xk (Cn [(2, .bool false)] (fun h => ?_)))))))
       refine Cr (Kb (Kr ?_))
       obtain rfl := Sj a
       have g := Sj f
       subst g
       have a := k
       refine Kr (Kb (Kr (Rz (.bool false) R ?_)))
       obtain rfl := Sj a
       exact ⟨R, e⟩
     refine Xu 4 [(24, .int .u8 d), (25, Bd (d > 57)), (26, Bd (d > 57)), (27, Bd (d > 57))] (Xk (Ci _ R a (fun a => ?_) (fun a => ?_)))
     · refine Cs (Xu 1 [(2, .bool false)] (Xk (Cn [(2, .bool false)] (fun h => ?_))))
       refine Cr (Kb (Kr ?_))
       obtain rfl := Sj a
       have g := Sj f
       subst g
       have a := k
       refine Kr (Kb (Kr (Rz (.bool false) R ?_)))
       obtain rfl := Sj a
       exact ⟨R, e⟩
     refine Ck (Kl (Kt (Cn [(0, Vs b), (3, Vi c)] (fun h => ?_))))
     refine Cp (Xu 3 [(9, Vi c), (10, Vi (i64.wrap (c + 1))), (3, Vi (i64.wrap (c + 1)))] (Xe R ?_))
     obtain rfl := Sj a
     exact Kt ⟨(i, i64.wrap (c + 1)), ⟨R, R, T0⟩, ⟨f, e, m, l⟩, Ns _⟩
   refine Xu 4 [(17, .int .u8 d), (18, Bd (d > 122)), (19, Bd (d > 122)), (20, Bd (d > 122))] (Xw 20 _ R a (fun a => ?_) (fun a => ?_))
   · refine Xu 3 [(21, .int .u8 d), (22, Bd (d < 48)), (23, Bd (d < 48))] (Xw 23 _ R a (fun a => ?_) (fun a => ?_))
     · refine Xu 4 [(24, U0), (25, U0), (26, .bool true), (27, .bool true)] (Xk (Cn [(0, Vs b), (3, Vi c), (27, .bool true)] (fun h => ?_)))
       refine c_true R (Cs (Xu 1 [(2, .bool false)] (Xk (Cr (Kb (Kr ?_))))))
       obtain rfl := Sj a
       have g := Sj f
       subst g
       have a := k
       refine Kr (Kb (Kr (Rz (.bool false) R ?_)))
       obtain rfl := Sj a
       exact ⟨R, e⟩
     refine Xu 4 [(24, .int .u8 d), (25, Bd (d > 57)), (26, Bd (d > 57)), (27, Bd (d > 57))] (Xk (Cn [(0, Vs b), (3, Vi c), (27, Bd (d > 57))] (fun h => ?_)))
     refine Ci _ R a (fun a => ?_) (fun a => ?_)
     · refine Cs (Xu 1 [(2, .bool false)] (Xk (Cr (Kb (Kr ?_)))))
       obtain rfl := Sj a
       have g := Sj f
       subst g
       have a := k
       refine Kr (Kb (Kr (Rz (.bool false) R ?_)))
       obtain rfl := Sj a
       exact ⟨R, e⟩
     refine Ck (Kl (Kt (Cp (Xu 3 [(9, Vi c), (10, Vi (i64.wrap (c + 1))), (3, Vi (i64.wrap (c + 1)))] (Xe R ?_)))))
     obtain rfl := Sj a
     exact Kt ⟨(i, i64.wrap (c + 1)), ⟨R, R, T0⟩, ⟨f, e, m, l⟩, Ns _⟩
   refine Xu 7 [(21, U0), (22, U0), (23, U0), (24, U0), (25, U0), (26, U0), (27, .bool false)] (Xk (c_false R (Ck (Kl (Kt (Cp (Xu 3 [(9, Vi c), (10, Vi (i64.wrap (c + 1))), (3, Vi (i64.wrap (c + 1)))] (Xe R ?_))))))))
   obtain rfl := Sj a
   exact Kt ⟨(i, i64.wrap (c + 1)), ⟨R, R, T0⟩, ⟨f, e, m, l⟩, Ns _⟩
 refine Ce (Ke ?_)
 obtain rfl := Sj a
 have g := Sj f
 subst g
 have a := k
 refine Ke (Ki (Kt (Cn [(0, Vs b)] (fun h => ?_))))
 refine Cs (Xu 1 [(28, Vs b)] (Xn (vs := [Vs b]) (Vi (b.length : Int)) R R R (reads_slen tstr9 _) (Xu 2 [(30, Bd ((b.length : Int) > 0)), (31, Bd ((b.length : Int) > 0))] (Xw 31 _ R a (fun a => ?_) (fun a => ?_)))))
 · refine Xu 1 [(32, Vs b)] (Xn (vs := [Vs b]) (Vi (b.length : Int)) R R R (reads_slen tstr9 _) (Xu 3 [(34, Bd ((b.length : Int) ≤ 12)), (35, Bd ((b.length : Int) ≤ 12)), (2, Bd ((b.length : Int) ≤ 12))] (Xk (Cr (Rz (Bd ((b.length : Int) ≤ 12)) R ?_)))))
   obtain rfl := Sj a
   exact ⟨R, e⟩
 refine Xu 5 [(32, U0), (33, U0), (34, U0), (35, .bool false), (2, .bool false)] (Xk (Cr (Rz (.bool false) R ?_)))
 obtain rfl := Sj a
 exact ⟨R, e⟩
def layout_sound_J7 (a : Int) (b : Int) (c : Int) (d : Int) (e : Bool) : Option Bool :=
(if e = true then
(if (decide (b ≥ 1)) = true then
(if (decide (b ≤ 1000000)) = true then
(if (decide (c ≥ (-10000))) = true then
(if (decide (c ≤ 10000)) = true then
(if (decide (d ≥ 0)) = true then
(if (decide (d ≤ 5000)) = true then
(if (decide (a ≥ 0)) = true then
some (decide (a ≤ 2))
else
some false)
else
some false)
else
some false)
else
some false)
else
some false)
else
some false)
else
some false)
else
some false)
def layout_sound (a : Int) (g : List UInt8) (h : Int) (b : Int) (c : Int) (d : Int) (e : Int) (f : Int) : Option Bool :=
(if (decide (a < 0)) = true then
some false
else
(if (decide (a > 4)) = true then
some false
else
((layout_name g).bind fun i =>
(if (!i) = true then
some false
else
(if (a == 0) = true then
some (a == 0 && (g == g && (h == (-1) && (b == 0 && (c == 0 && (d == 0 && (e == 0 && (f == 0 && true))))))))
else
(if (a == 2) = true then
(if (decide (f ≥ 1)) = true then
layout_sound_J7 b c d e (decide (f ≤ 1000000000))
else
layout_sound_J7 b c d e false)
else
layout_sound_J7 b c d e (f == 0)))))))
theorem layout_sound_w (f l o h i j k g t b) (a : layout_sound f l o h i j k g = some t) : CallVC Tryz.prog 57 [.agg #[Vi f, Vs l, Vi o, Vi h, Vi i, Vi j, Vi k, Vi g]] b fun x r => x = .bool t ∧ Ev [] b r := by
 refine Cw hmx Tryz.func57 R R R ?_
 have e := Ev.refl [] b
 have n := MS.one b
 have q := FR.nil b.heap.size
 refine Cs (Xo R (fun d B w c v => ?_))
 have n := n.box v w c
 have q := q.box e.size w
 have e := e.ext v
 refine Xu 1 [(2, .bool false)] (Xk (Cq (Cs (Yg d 0 0 (Vi f) R R (Rf tfld79_0 _) tcell3 c nn R (Xu 2 [(6, Bd (f < 0)), (7, Bd (f < 0))] (Xw 7 _ R a (fun a => ?_) (fun a => ?_)))))))
 · refine Xu 10 [(8, U0), (9, U0), (10, U0), (11, .bool true), (12, .bool true), (13, U0), (14, U0), (15, U0), (16, U0), (17, .bool true)] (Xk (c_true R (Cs (Xu 1 [(2, .bool false)] (Xk (Cr (Kr (Rz (.bool false) R ?_))))))))
   obtain rfl := Sj a
   exact ⟨R, e⟩
 refine Yg d 0 0 (Vi f) R R (Rf tfld79_0 _) tcell3 c nn R (Xu 3 [(10, Bd (f > 4)), (11, Bd (f > 4)), (12, Bd (f > 4))] (Xw 12 _ R a (fun a => ?_) (fun a => ?_)))
 · refine Xu 5 [(13, U0), (14, U0), (15, U0), (16, U0), (17, .bool true)] (Xk (c_true R (Cs (Xu 1 [(2, .bool false)] (Xk (Cr (Kr (Rz (.bool false) R ?_))))))))
   obtain rfl := Sj a
   exact ⟨R, e⟩
 refine Yg d 0 1 (Vs l) R R (Rf tfld79_1 _) tcell9 c nn R ?_
 obtain ⟨y, A, a⟩ := Bs a
 have z := layout_name_w l _ B A
 refine Xv z R ?_
 rintro x C ⟨rfl, s⟩
 have c := s.box c nn
 have n := n.ev s
 have e := e.ext s
 refine Xu 2 [(16, .bool (!y)), (17, .bool (!y))] (Xk (Ci _ R a (fun a => ?_) (fun a => ?_)))
 · refine Cs (Xu 1 [(2, .bool false)] (Xk (Cr (Kr (Rz (.bool false) R ?_)))))
   obtain rfl := Sj a
   exact ⟨R, e⟩
 refine Ck (Kt (Cq (Cs (Yg d 0 0 (Vi f) R R (Rf tfld79_0 _) tcell3 c nn R (Xu 1 [(20, .bool (f == 0))] (Xk (Cn [(1, Vp d 0), (20, .bool (f == 0))] (fun m => ?_))))))))
 refine Ci _ R a (fun a => ?_) (fun a => ?_)
 · refine Cs (Yl _ _ R (Ra 0 [Vi f, Vs l, Vi o, Vi h, Vi i, Vi j, Vi k, Vi g] tagg79 c nn R) (Yg d 0 1 (Vs l) R R (Rf tfld79_1 _) tcell9 c nn R (Xg (.agg #[Vi 0, Vs l, Vi (-1), Vi 0, Vi 0, Vi 0, Vi 0, Vi 0]) R (x_binop (.bool (f == 0 && (l == l && (o == (-1) && (h == 0 && (i == 0 && (j == 0 && (k == 0 && (g == 0 && true))))))))) (.agg #[Vi f, Vs l, Vi o, Vi h, Vi i, Vi j, Vi k, Vi g]) (.agg #[Vi 0, Vs l, Vi (-1), Vi 0, Vi 0, Vi 0, Vi 0, Vi 0]) R R R R (bin_aggeq Tryz.underlying79 (by kernel_rfl) (by kernel_rfl) (fun _ => (eqF_cell (by kernel_rfl) (fun b => (tcell3 b).1) R R (fun b => eq_int tint3 _ _ b) (eqF_cell (by kernel_rfl) (fun b => (tcell9 b).1) R R (fun b => eq_str tstr9 _ _ b) (eqF_cell (by kernel_rfl) (fun b => (tcell3 b).1) R R (fun b => eq_int tint3 _ _ b) (eqF_cell (by kernel_rfl) (fun b => (tcell3 b).1) R R (fun b => eq_int tint3 _ _ b) (eqF_cell (by kernel_rfl) (fun b => (tcell3 b).1) R R (fun b => eq_int tint3 _ _ b) (eqF_cell (by kernel_rfl) (fun b => (tcell3 b).1) R R (fun b => eq_int tint3 _ _ b) (eqF_cell (by kernel_rfl) (fun b => (tcell3 b).1) R R (fun b => eq_int tint3 _ _ b) (eqF_cell (by kernel_rfl) (fun b => (tcell3 b).1) R R (fun b => eq_int tint3 _ _ b) eqF_nil)))))))))) ?_))))
   refine Xu 1 [(2, .bool (f == 0 && (l == l && (o == (-1) && (h == 0 && (i == 0 && (j == 0 && (k == 0 && (g == 0 && true)))))))))] (Xk (Cr (Kr (Rz (.bool (f == 0 && (l == l && (o == (-1) && (h == 0 && (i == 0 && (j == 0 && (k == 0 && (g == 0 && true))))))))) R ?_))))
   obtain rfl := Sj a
   exact ⟨R, e⟩
 refine Ck (Kt (Cs (Yg d 0 7 (Vi g) R R (Rf tfld79_7 _) tcell3 c nn R (Xu 2 [(28, .bool (g == 0)), (3, .bool (g == 0))] (Xk (c_join (σ := Bool) (fun u => match u with | p => [(1, Vp d 0), (3, .bool p)]) (fun u r => match u with | p => layout_sound_J7 h i j k p = some t ∧ Ev [] b r ∧ MS r [[d], []] ∧ FR b.heap.size [[d]] ∧ r.heap[d]? = some (.cells #[Vi f, Vs l, Vi o, Vi h, Vi i, Vi j, Vi k, Vi g] 79 (0, 0))) ?_ ?_))))))
 · refine Cs (Yg d 0 0 (Vi f) R R (Rf tfld79_0 _) tcell3 c nn R (Xu 1 [(31, .bool (f == 2))] (Xk (Ci _ R a (fun a => ?_) (fun a => ?_)))))
   · refine Cp (Yg d 0 7 (Vi g) R R (Rf tfld79_7 _) tcell3 c nn R (Xu 2 [(34, Bd (g ≥ 1)), (35, Bd (g ≥ 1))] (Xw 35 _ R a (fun a => ?_) (fun a => ?_))))
     · refine Yg d 0 7 (Vi g) R R (Rf tfld79_7 _) tcell3 c nn R (Xu 3 [(38, Bd (g ≤ 1000000000)), (39, Bd (g ≤ 1000000000)), (3, Bd (g ≤ 1000000000))] (Xe R ?_))
       exact Kt ⟨decide (g ≤ 1000000000), ⟨R, R, T0⟩, a, e, n, q, c⟩
     refine Xu 5 [(36, U0), (37, U0), (38, U0), (39, .bool false), (3, .bool false)] (Xe R ?_)
     exact Kt ⟨false, ⟨R, R, T0⟩, a, e, n, q, c⟩
   refine Ck ?_
   exact Kt ⟨g == 0, ⟨R, R, T0⟩, a, e, n, q, c⟩
 rintro p m D ⟨a, e, n, q, c⟩
 refine Cs (Xu 2 [(40, .bool p), (41, .bool p)] (Xw 41 p R a (fun a => ?_) (fun a => ?_)))
 · refine Yg d 0 4 (Vi i) R R (Rf tfld79_4 _) tcell3 c nn R (Xu 3 [(44, Bd (i ≥ 1)), (45, Bd (i ≥ 1)), (46, Bd (i ≥ 1))] (Xw 46 _ R a (fun a => ?_) (fun a => ?_)))
   · refine Yg d 0 4 (Vi i) R R (Rf tfld79_4 _) tcell3 c nn R (Xu 3 [(49, Bd (i ≤ 1000000)), (50, Bd (i ≤ 1000000)), (51, Bd (i ≤ 1000000))] (Xw 51 _ R a (fun a => ?_) (fun a => ?_)))
     · refine Yg d 0 5 (Vi j) R R (Rf tfld79_5 _) tcell3 c nn R (Xu 3 [(54, Bd (j ≥ (-10000))), (55, Bd (j ≥ (-10000))), (56, Bd (j ≥ (-10000)))] (Xw 56 _ R a (fun a => ?_) (fun a => ?_)))
       · refine Yg d 0 5 (Vi j) R R (Rf tfld79_5 _) tcell3 c nn R (Xu 3 [(59, Bd (j ≤ 10000)), (60, Bd (j ≤ 10000)), (61, Bd (j ≤ 10000))] (Xw 61 _ R a (fun a => ?_) (fun a => ?_)))
         · refine Yg d 0 6 (Vi k) R R (Rf tfld79_6 _) tcell3 c nn R (Xu 3 [(64, Bd (k ≥ 0)), (65, Bd (k ≥ 0)), (66, Bd (k ≥ 0))] (Xw 66 _ R a (fun a => ?_) (fun a => ?_)))
           · refine Yg d 0 6 (Vi k) R R (Rf tfld79_6 _) tcell3 c nn R (Xu 3 [(69, Bd (k ≤ 5000)), (70, Bd (k ≤ 5000)), (71, Bd (k ≤ 5000))] (Xw 71 _ R a (fun a => ?_) (fun a => ?_)))
             · refine Yg d 0 3 (Vi h) R R (Rf tfld79_3 _) tcell3 c nn R (Xu 3 [(74, Bd (h ≥ 0)), (75, Bd (h ≥ 0)), (76, Bd (h ≥ 0))] (Xw 76 _ R a (fun a => ?_) (fun a => ?_)))
               · refine Yg d 0 3 (Vi h) R R (Rf tfld79_3 _) tcell3 c nn R (Xu 3 [(79, Bd (h ≤ 2)), (80, Bd (h ≤ 2)), (2, Bd (h ≤ 2))] (Xk (Cn [(2, Bd (h ≤ 2))] (fun m => ?_))))
                 refine Cr (Rz (Bd (h ≤ 2)) R ?_)
                 obtain rfl := Sj a
                 exact ⟨R, e⟩
               refine Xu 5 (Un 77 3 ++ [(80, .bool false), (2, .bool false)]) (Xk (Cn [(2, .bool false)] (fun m => ?_)))
               refine Cr (Rz (.bool false) R ?_)
               obtain rfl := Sj a
               exact ⟨R, e⟩
             refine Xu 10 (Un 72 3 ++ [(75, .bool false), (76, .bool false)] ++ Un 77 3 ++ [(80, .bool false), (2, .bool false)]) (Xk (Cn [(2, .bool false)] (fun m => ?_)))
             refine Cr (Rz (.bool false) R ?_)
             obtain rfl := Sj a
             exact ⟨R, e⟩
           refine Xu 15 (Un 67 3 ++ [(70, .bool false), (71, .bool false)] ++ Un 72 3 ++ [(75, .bool false), (76, .bool false)] ++ Un 77 3 ++ [(80, .bool false), (2, .bool false)]) (Xk (Cn [(2, .bool false)] (fun m => ?_)))
           refine Cr (Rz (.bool false) R ?_)
           obtain rfl := Sj a
           exact ⟨R, e⟩
         refine Xu 20 (Un 62 3 ++ [(65, .bool false), (66, .bool false)] ++ Un 67 3 ++ [(70, .bool false), (71, .bool false)] ++ Un 72 3 ++ [(75, .bool false), (76, .bool false)] ++ Un 77 3 ++ [(80, .bool false), (2, .bool false)]) (Xk (Cn [(2, .bool false)] (fun m => ?_)))
         refine Cr (Rz (.bool false) R ?_)
         obtain rfl := Sj a
         exact ⟨R, e⟩
       refine Xu 25 (Un 57 3 ++ [(60, .bool false), (61, .bool false)] ++ Un 62 3 ++ [(65, .bool false), (66, .bool false)] ++ Un 67 3 ++ [(70, .bool false), (71, .bool false)] ++ Un 72 3 ++ [(75, .bool false), (76, .bool false)] ++ Un 77 3 ++ [(80, .bool false), (2, .bool false)]) (Xk (Cn [(2, .bool false)] (fun m => ?_)))
       refine Cr (Rz (.bool false) R ?_)
       obtain rfl := Sj a
       exact ⟨R, e⟩
     refine Xu 30 (Un 52 3 ++ [(55, .bool false), (56, .bool false)] ++ Un 57 3 ++ [(60, .bool false), (61, .bool false)] ++ Un 62 3 ++ [(65, .bool false), (66, .bool false)] ++ Un 67 3 ++ [(70, .bool false), (71, .bool false)] ++ Un 72 3 ++ [(75, .bool false), (76, .bool false)] ++ Un 77 3 ++ [(80, .bool false), (2, .bool false)]) (Xk (Cn [(2, .bool false)] (fun m => ?_)))
     refine Cr (Rz (.bool false) R ?_)
     obtain rfl := Sj a
     exact ⟨R, e⟩
   refine Xu 35 (Un 47 3 ++ [(50, .bool false), (51, .bool false)] ++ Un 52 3 ++ [(55, .bool false), (56, .bool false)] ++ Un 57 3 ++ [(60, .bool false), (61, .bool false)] ++ Un 62 3 ++ [(65, .bool false), (66, .bool false)] ++ Un 67 3 ++ [(70, .bool false), (71, .bool false)] ++ Un 72 3 ++ [(75, .bool false), (76, .bool false)] ++ Un 77 3 ++ [(80, .bool false), (2, .bool false)]) (Xk (Cn [(2, .bool false)] (fun m => ?_)))
   refine Cr (Rz (.bool false) R ?_)
   obtain rfl := Sj a
   exact ⟨R, e⟩
 refine Xu 40 (Un 42 3 ++ [(45, .bool false), (46, .bool false)] ++ Un 47 3 ++ [(50, .bool false), (51, .bool false)] ++ Un 52 3 ++ [(55, .bool false), (56, .bool false)] ++ Un 57 3 ++ [(60, .bool false), (61, .bool false)] ++ Un 62 3 ++ [(65, .bool false), (66, .bool false)] ++ Un 67 3 ++ [(70, .bool false), (71, .bool false)] ++ Un 72 3 ++ [(75, .bool false), (76, .bool false)] ++ Un 77 3 ++ [(80, .bool false), (2, .bool false)]) (Xk (Cn [(2, .bool false)] (fun m => ?_)))
 refine Cr (Rz (.bool false) R ?_)
 obtain rfl := Sj a
 exact ⟨R, e⟩
def layout_Valid_L37 (d : List (Int × (List UInt8) × Int × Int × Int × Int × Int × Int)) (b : List Int) (e : Int) : Option (Step Int (Unit ⊕ Unit)) :=
match e with
| a =>
(if (decide (a < ((d).length : Int))) = true then
((idx d a).bind fun c =>
(if (c.1 == 3) = true then
((idx b a).bind fun f =>
(if (decide (f < 2)) = true then
some (.done (.inl ()))
else
(if (c.1 != 4) = true then
((idx b a).bind fun g =>
(if (decide (g < 1)) = true then
some (.done (.inl ()))
else
some (.next (i64.wrap (a + 1)))))
else
some (.next (i64.wrap (a + 1))))))
else
(if (c.1 != 4) = true then
((idx b a).bind fun h =>
(if (decide (h < 1)) = true then
some (.done (.inl ()))
else
some (.next (i64.wrap (a + 1)))))
else
some (.next (i64.wrap (a + 1))))))
else
some (.done (.inr ())))
def layout_Valid_L10 (g : List (Int × (List UInt8) × Int × Int × Int × Int × Int × Int)) (j : (List ((List UInt8) × Bool)) × (List ((Int × Int) × Bool)) × (List Int) × Int × Int) : Option (Step ((List ((List UInt8) × Bool)) × (List ((Int × Int) × Bool)) × (List Int) × Int × Int) (Int ⊕ ((List Int) × Int))) :=
match j with
| (d, e, c, f, b) =>
(if (decide (b < ((g).length : Int))) = true then
((idx g b).bind fun a =>
((layout_sound a.1 a.2.1 a.2.2.1 a.2.2.2.1 a.2.2.2.2.1 a.2.2.2.2.2.1 a.2.2.2.2.2.2.1 a.2.2.2.2.2.2.2).bind fun k =>
(if (!k) = true then
some (.done (.inl 1))
else
(if ((a.1 == 0) != (b == 0)) = true then
some (.done (.inl 1))
else
(if ((mget d a.2.1).getD false) = true then
some (.done (.inl 8))
else
(if (b == 0) = true then
some (.next ((mput d a.2.1 true), e, c, f, i64.wrap (b + 1)))
else
(if (decide (a.2.2.1 < 0)) = true then
some (.done (.inl 12))
else
(if (decide (a.2.2.1 ≥ b)) = true then
some (.done (.inl 12))
else
((idx g a.2.2.1).bind fun h =>
(if (h.1 == 4) = true then
some (.done (.inl 17))
else
(if ((h.1 == 3) != (a.2.2.2.1 != 0)) = true then
some (.done (.inl 17))
else
(if ((mget e (a.2.2.1, a.2.2.2.1)).getD false) = true then
some (.done (.inl 17))
else
((idx c a.2.2.1).bind fun i =>
((idx c a.2.2.1).bind fun l =>
(if (a.1 == 4) = true then
some (.next ((mput d a.2.1 true), (mput e (a.2.2.1, a.2.2.2.1) true), (c.set (Int.toNat a.2.2.1) (i64.wrap (i + 1))), i64.wrap (f + 1), i64.wrap (b + 1)))
else
some (.next ((mput d a.2.1 true), (mput e (a.2.2.1, a.2.2.2.1) true), (c.set (Int.toNat a.2.2.1) (i64.wrap (i + 1))), f, i64.wrap (b + 1))))))))))))))))))
else
some (.done (.inr (c, f))))
def layout_Valid (a : List (Int × (List UInt8) × Int × Int × Int × Int × Int × Int)) : Option Int :=
(if (decide (((a).length : Int) > 128)) = true then
some 3
else
(if (((a).length : Int) == 0) = true then
some 13
else
(if (0 : Int) ≤ ((a).length : Int) ∧ (((a).length : Int) : Int) ≤ 4294967296 then
((loop (layout_Valid_L10 a) (([] : List ((List UInt8) × Bool)), ([] : List ((Int × Int) × Bool)), (List.replicate (Int.toNat ((a).length : Int)) 0 : List Int), 0, 0)).bind fun b => match b with
| (.inl d) => some d
| (.inr (c, e)) => ((loop (layout_Valid_L37 a c) 0).bind fun b => match b with
| (.inl _) => some 13
| (.inr _) => (if (decide (e > 32)) = true then
some 3
else
some 0)))
else none)))
theorem layout_Valid_w (l m f aH H Z) (d : MS H [Z]) (h : SlR (eProd eI (eProd eStr (eProd eI (eProd eI (eIt4))))) H (fl [Z]) l m f) (a : layout_Valid f = some aH) : CallVC Tryz.prog 23 [Vl l f m] H fun aI G => aI = Vi aH ∧ Ev [] H G := by
 refine Cw hmx Tryz.func23 R R R ?_
 have g := Ev.refl [] H
 have k := FR.nil H.heap.size
 refine Cs (Xu 1 [(2, Vi 0)] (Xk (Cq (Cb (Cs (Xu 1 [(14, Vl l f m)] (Xz tsl28 R (Xu 2 [(16, Bd (((f).length : Int) > 128)), (13, Bd (((f).length : Int) > 128))] (Xk ?_)))))))))
 refine Ci _ R a (fun a => ?_) (fun a => ?_)
 · refine Cs (Xu 1 [(2, Vi 3)] (Xk (Cr (Kb (Kr (Rz (Vi 3) R ?_))))))
   obtain rfl := Sj a
   exact ⟨R, g⟩
 refine Cs (Xu 1 [(18, Vl l f m)] (Xz tsl28 R (Xu 2 [(20, .bool (((f).length : Int) == 0)), (17, .bool (((f).length : Int) == 0))] (Xk (Ci _ R a (fun a => ?_) (fun a => ?_))))))
 · refine Cs (Xu 1 [(2, Vi 13)] (Xk (Cr (Kb (Kr (Rz (Vi 13) R ?_))))))
   obtain rfl := Sj a
   exact ⟨R, g⟩
 refine Ck (Kl (Kt (Cs (x_makeMap tmap142 none .i64 R R R (fun B bs aB am a3 bA => ?_)))))
 refine I1 ?_
 have v : MapH Vs Value.bool bs B ([] : List ((List UInt8) × Bool)) := MapH.mk am
 have k := k.box g.size aB
 obtain ⟨h, d, g⟩ := E3 (Cx.b d a3 aB am) h d g
 refine Xu 1 [(3, .map (some B))] (Xk (Cs (x_makeMap tmap143 none .i64 R R R (fun C aJ aD an a5 bB => ?_))))
 refine I1 ?_
 have A : MapH (kv2 .i64 .i64) Value.bool aJ C ([] : List ((Int × Int) × Bool)) := MapH.mk an
 have k := k.box g.size aD
 obtain ⟨h, v, d, g⟩ := E4 (Cx.b d a5 aD an) h v d g
 refine Xu 1 [(4, .map (some C))] (Xk (Cs (Xu 1 [(23, Vl l f m)] (Xz tsl28 R ?_))))
 have ax := Gl a
 have a := Gr a
 obtain ⟨q, w, bu, bg, aw, ay, bi⟩ := own_make (e := eI) tel22 aJ ((f).length : Int) ax.1 ax.2 0 (fun _ _ => R)
 refine Xm _ bu (xv := Vi ((f).length : Int)) (yv := Vi ((f).length : Int)) R R R R bg (I1 ?_)
 obtain ⟨h, v, A, d⟩ := E4 (Cx.p d aw ay) h v A d
 have k := k.push (fun b aS => Nat.le_trans g.size (ay b aS).1)
 have g := g.ext aw
 have i := bi (fl [Bk q, [C], [B], Z])
 refine Xu 1 [(5, Vl q ((List.replicate (Int.toNat ((f).length : Int)) 0 : List Int)) w)] (Xk (Cs (Xu 1 [(6, Vi 0)] (Xk (Cq (Cs (Xu 1 [(26, Vl l f m)] (Xz tsl28 R (Xu 1 [(28, Vi 0)] ?_)))))))))
 refine Xk (Cn [(0, Vl l f m), (3, .map (some B)), (4, .map (some C)), (5, Vl q ((List.replicate (Int.toNat ((f).length : Int)) 0 : List Int)) w), (6, Vi 0), (26, Vl l f m), (27, Vi ((f).length : Int)), (28, Vi 0)] (fun D => ?_))
 refine Cb ?_
 obtain ⟨h, i, d⟩ := E3 (Cx.s d [2, 1, 0, 3]) h i d
 have k := k.px [2, 1, 0]
 obtain ⟨aN, ah, O⟩ := Bs a
 obtain ⟨U, ah⟩ := Lo ah
 refine Cl (Lr hmx (σ := Nat × (List ((List UInt8) × Bool)) × (List ((Int × Int) × Bool)) × (List Int) × Int × Int) (fun J => match J with | (_, N, L, o, u, n) => [(0, Vl l f m), (3, .map (some B)), (4, .map (some C)), (5, Vl q o w), (6, Vi u), (26, Vl l f m), (27, Vi ((f).length : Int)), (28, Vi n)]) (fun J G => match J with | (ak, N, L, o, u, n) => loopN (layout_Valid_L10 f) ak (N, L, o, u, n) = some aN ∧ Ev [] H G ∧ (fun X => MS G X ∧ FR H.heap.size [[B], [C], Bk q] ∧ SlR (eProd eI (eProd eStr (eProd eI (eProd eI (eIt4))))) G (fl X) l m f ∧ MapH Vs Value.bool G B N ∧ MapH (kv2 .i64 .i64) Value.bool G C L ∧ OwnS eI 3 G (fl X) q w o) [[B], [C], Bk q, Z]) (fun J => J.1) (U, ([] : List ((List UInt8) × Bool)), ([] : List ((Int × Int) × Bool)), (List.replicate (Int.toNat ((f).length : Int)) 0 : List Int), 0, 0) ⟨R, R, R, R, R, R, R, R, T0⟩ ⟨ah, g, d, k, h, v, A, i⟩ ?_)
 rintro ⟨U, N, L, o, u, n⟩ D bL ⟨F, g, d, k, h, v, A, i⟩
 rcases U with _ | U
 · exact (Lz F).elim
 obtain ⟨bC, a, F⟩ := Bs F
 refine Cs (Xu 1 [(29, Bd (n < ((f).length : Int)))] (Xk (Cn [(0, Vl l f m), (3, .map (some B)), (4, .map (some C)), (5, Vl q o w), (6, Vi u), (26, Vl l f m), (27, Vi ((f).length : Int)), (28, Vi n), (29, Bd (n < ((f).length : Int)))] (fun D => ?_))))
 refine Cq (Ci _ R a (fun a => ?_) (fun a => ?_))
 · refine Ck (Kt (Cq (Cb (Cs (Xu 1 [(30, Vi n)] ?_)))))
   obtain ⟨c, bk, a⟩ := Bs a
   refine Xqa [Vi c.1, Vs c.2.1, Vi c.2.2.1, Vi c.2.2.2.1, Vi c.2.2.2.2.1, Vi c.2.2.2.2.2.1, Vi c.2.2.2.2.2.2.1, Vi c.2.2.2.2.2.2.2] (h.el tsl28) tagg79 bk R (fun _ => R) (fun _ => Xj #[Vi 0, Vs ([] : List UInt8), Vi 0, Vi 0, Vi 0, Vi 0, Vi 0, Vi 0] R (fun E bE az t a0 => ?_))
   have k := k.box g.size az
   obtain ⟨h, v, A, i, d, g⟩ := E6 (Cx.b d a0 az t) h v A i d g
   refine Xu 1 [(7, Vi n)] ?_
   obtain ⟨bq, a9, aU, ao⟩ := Sa [Vi c.1, Vs c.2.1, Vi c.2.2.1, Vi c.2.2.2.1, Vi c.2.2.2.2.1, Vi c.2.2.2.2.2.1, Vi c.2.2.2.2.2.2.1, Vi c.2.2.2.2.2.2.2] tagg79 t R R R
   refine Xp a9 R ?_
   obtain ⟨h, v, A, i, d⟩ := E5 (Cx.j d 0 ao) h v A i d
   have g := g.th ao k 0
   have t := aU
   refine Xk (Cq (Cs (Yl _ _ R (Ra 0 [Vi c.1, Vs c.2.1, Vi c.2.2.1, Vi c.2.2.2.1, Vi c.2.2.2.2.1, Vi c.2.2.2.2.2.1, Vi c.2.2.2.2.2.2.1, Vi c.2.2.2.2.2.2.2] tagg79 t nn R) ?_)))
   obtain ⟨aK, bj, a⟩ := Bs a
   have aZ := layout_sound_w c.1 c.2.1 c.2.2.1 c.2.2.2.1 c.2.2.2.2.1 c.2.2.2.2.2.1 c.2.2.2.2.2.2.1 c.2.2.2.2.2.2.2 _ bq bj
   refine Xv aZ R ?_
   rintro aI bF ⟨rfl, a1⟩
   obtain ⟨h, v, A, i, t, d, g⟩ := E7 (Cx.e d a1) h v A i t d g
   refine Xu 2 [(35, .bool (!aK)), (36, .bool (!aK))] (Xw 36 _ R a (fun a => ?_) (fun a => ?_))
   · refine Xu 7 [(37, U0), (38, U0), (39, U0), (40, U0), (41, U0), (42, U0), (43, .bool true)] (Xk (c_true R (Cs (Xu 1 [(2, Vi 1)] (Xk (Cr (Kr (Kb (Kr ?_)))))))))
     obtain rfl := Sj a
     have x := Sj F
     subst x
     have a := O
     refine Kr (Kb (Kr (Rz (Vi 1) R ?_)))
     obtain rfl := Sj a
     exact ⟨R, g⟩
   refine Yg E 0 0 (Vi c.1) R R (Rf tfld79_0 _) tcell3 t nn R (Xu 3 [(39, .bool (c.1 == 0)), (40, Vi n), (41, .bool (n == 0))] (x_binop (.bool ((c.1 == 0) != (n == 0))) (.bool (c.1 == 0)) (.bool (n == 0)) R R R R (vb_boolneq tbool4) (Xu 1 [(43, .bool ((c.1 == 0) != (n == 0)))] (Xk (Ci _ R a (fun a => ?_) (fun a => ?_))))))
   · refine Cs (Xu 1 [(2, Vi 1)] (Xk (Cr (Kr (Kb (Kr ?_))))))
     obtain rfl := Sj a
     have x := Sj F
     subst x
     have a := O
     refine Kr (Kb (Kr (Rz (Vi 1) R ?_)))
     obtain rfl := Sj a
     exact ⟨R, g⟩
   refine Ck (Kt (Cq (Cs (Xu 1 [(44, .map (some B))] (Yg E 0 1 (Vs c.2.1) R R (Rf tfld79_1 _) tcell9 t nn R (x_lookup (xv := .map (some B)) (yv := Vs c.2.1) (.bool ((mget N c.2.1).getD false)) R R R R (MapH.get tmap142 tkey9 c.2.1 false (fun H => by kernel_rfl) v nn) ?_))))))
   refine Xk (Cn [(0, Vl l f m), (3, .map (some B)), (4, .map (some C)), (5, Vl q o w), (6, Vi u), (7, Vi n), (8, Vp E 0), (26, Vl l f m), (27, Vi ((f).length : Int)), (28, Vi n), (47, .bool ((mget N c.2.1).getD false))] (fun D => ?_))
   refine Ci _ R a (fun a => ?_) (fun a => ?_)
   · refine Cs (Xu 1 [(2, Vi 8)] (Xk (Cr (Kr (Kb (Kr ?_))))))
     obtain rfl := Sj a
     have x := Sj F
     subst x
     have a := O
     refine Kr (Kb (Kr (Rz (Vi 8) R ?_)))
     obtain rfl := Sj a
     exact ⟨R, g⟩
   refine Ck (Kt (Cs (Xu 1 [(48, .map (some B))] (Yg E 0 1 (Vs c.2.1) R R (Rf tfld79_1 _) tcell9 t nn R ?_))))
   obtain ⟨br, ba, a6, ap⟩ := MapH.upd tmap142 tkey9 c.2.1 true v
   refine x_mapUpdate (xv := .map (some B)) (yv := Vs c.2.1) (zv := .bool true) br R R R R R ba (I1 ?_)
   obtain ⟨h, A, i, t, d⟩ := E5 (Cx.j d 1 ap) h A i t d
   have g := g.th ap k 1
   have v := a6
   refine Xk (Cq (Cs (Xu 2 [(51, Vi n), (52, .bool (n == 0))] (Xk (Ci _ R a (fun a => ?_) (fun a => ?_))))))
   · refine Ce (Ke (Ki (Kt (Cp (Xu 2 [(102, Vi (i64.wrap (n + 1))), (28, Vi (i64.wrap (n + 1)))] (Xe R ?_))))))
     obtain rfl := Sj a
     obtain ⟨h, i, d⟩ := E3 (Cx.s d [1, 2, 3, 4]) h i d
     have k := k.px [1, 2, 3]
     exact Kt ⟨(U, (mput N c.2.1 true), L, o, u, i64.wrap (n + 1)), ⟨R, R, R, R, R, R, R, R, T0⟩, ⟨F, g, d, k, h, v, A, i⟩, Ns _⟩
   refine Ck (Kt (Cq (Cs (Yg E 0 2 (Vi c.2.2.1) R R (Rf tfld79_2 _) tcell3 t nn R (Xu 2 [(55, Bd (c.2.2.1 < 0)), (56, Bd (c.2.2.1 < 0))] (Xw 56 _ R a (fun a => ?_) (fun a => ?_)))))))
   · refine Xu 5 [(57, U0), (58, U0), (59, U0), (60, U0), (61, .bool true)] (Xk (c_true R (Cs (Xu 1 [(2, Vi 12)] (Xk (Cr (Kr (Kb (Kr ?_)))))))))
     obtain rfl := Sj a
     have x := Sj F
     subst x
     have a := O
     refine Kr (Kb (Kr (Rz (Vi 12) R ?_)))
     obtain rfl := Sj a
     exact ⟨R, g⟩
   refine Yg E 0 2 (Vi c.2.2.1) R R (Rf tfld79_2 _) tcell3 t nn R (Xu 3 [(59, Vi n), (60, Bd (c.2.2.1 ≥ n)), (61, Bd (c.2.2.1 ≥ n))] (Xk (Ci _ R a (fun a => ?_) (fun a => ?_))))
   · refine Cs (Xu 1 [(2, Vi 12)] (Xk (Cr (Kr (Kb (Kr ?_))))))
     obtain rfl := Sj a
     have x := Sj F
     subst x
     have a := O
     refine Kr (Kb (Kr (Rz (Vi 12) R ?_)))
     obtain rfl := Sj a
     exact ⟨R, g⟩
   refine Ck (Kt (Cs (Xu 1 [(62, Vl l f m)] (Yg E 0 2 (Vi c.2.2.1) R R (Rf tfld79_2 _) tcell3 t nn R ?_))))
   obtain ⟨K, bl, a⟩ := Bs a
   refine Xq (h.el tsl28) tfld79_0 tcell3 bl R (fun _ => R) (fun _ => Xu 1 [(9, Vi K.1)] (Xk (Cn [(0, Vl l f m), (3, .map (some B)), (4, .map (some C)), (5, Vl q o w), (6, Vi u), (8, Vp E 0), (9, Vi K.1), (26, Vl l f m), (27, Vi ((f).length : Int)), (28, Vi n)] (fun D => ?_))))
   refine Cs (Yg E 0 2 (Vi c.2.2.1) R R (Rf tfld79_2 _) tcell3 t nn R (Yg E 0 3 (Vi c.2.2.2.1) R R (Rf tfld79_3 _) tcell3 t nn R (Xg (.agg #[Vi c.2.2.1, Vi c.2.2.2.1]) R (Xj #[Vi 0, Vi 0] R (fun ae bG aA aa a2 => ?_)))))
   have k := k.box g.size aA
   obtain ⟨h, v, A, i, t, d, g⟩ := E7 (Cx.b d a2 aA aa) h v A i t d g
   obtain ⟨bH, bb, aX, aq⟩ := Sa [Vi c.2.2.1, Vi c.2.2.2.1] tagg146 aa R R R
   refine Xp bb R ?_
   obtain ⟨h, v, A, i, t, d⟩ := E6 (Cx.j d 0 aq) h v A i t d
   have g := g.th aq k 0
   have aa := aX
   refine Xk (Cq (Cs (Xu 3 [(73, Vi K.1), (74, .bool (K.1 == 4)), (75, .bool (K.1 == 4))] (Xw 75 _ R a (fun a => ?_) (fun a => ?_)))))
   · refine Xu 12 (Un 76 6 ++ [(82, .bool true), (83, .bool true)] ++ Un 84 3 ++ [(87, .bool true)]) (Xk (Cn [(0, Vl l f m), (3, .map (some B)), (4, .map (some C)), (5, Vl q o w), (6, Vi u), (8, Vp E 0), (10, Vp ae 0), (26, Vl l f m), (27, Vi ((f).length : Int)), (28, Vi n), (87, .bool true)] (fun D => ?_)))
     refine c_true R (Cs (Xu 1 [(2, Vi 17)] (Xk (Cr (Kr (Kb (Kr ?_)))))))
     obtain rfl := Sj a
     have x := Sj F
     subst x
     have a := O
     refine Kr (Kb (Kr (Rz (Vi 17) R ?_)))
     obtain rfl := Sj a
     exact ⟨R, g⟩
   refine Xu 2 [(76, Vi K.1), (77, .bool (K.1 == 3))] (Yg E 0 3 (Vi c.2.2.2.1) R R (Rf tfld79_3 _) tcell3 t nn R (Xu 1 [(80, .bool (c.2.2.2.1 != 0))] (x_binop (.bool ((K.1 == 3) != (c.2.2.2.1 != 0))) (.bool (K.1 == 3)) (.bool (c.2.2.2.1 != 0)) R R R R (vb_boolneq tbool4) (Xu 2 [(82, .bool ((K.1 == 3) != (c.2.2.2.1 != 0))), (83, .bool ((K.1 == 3) != (c.2.2.2.1 != 0)))] (Xw 83 _ R a (fun a => ?_) (fun a => ?_))))))
   · refine Xu 4 (Un 84 3 ++ [(87, .bool true)]) (Xk (Cn [(0, Vl l f m), (3, .map (some B)), (4, .map (some C)), (5, Vl q o w), (6, Vi u), (8, Vp E 0), (10, Vp ae 0), (26, Vl l f m), (27, Vi ((f).length : Int)), (28, Vi n), (87, .bool true)] (fun D => ?_)))
     refine c_true R (Cs (Xu 1 [(2, Vi 17)] (Xk (Cr (Kr (Kb (Kr ?_)))))))
     obtain rfl := Sj a
     have x := Sj F
     subst x
     have a := O
     refine Kr (Kb (Kr (Rz (Vi 17) R ?_)))
     obtain rfl := Sj a
     exact ⟨R, g⟩
   refine Xu 1 [(84, .map (some C))] (Yl _ _ R (Ra 0 [Vi c.2.2.1, Vi c.2.2.2.1] tagg146 aa nn R) (x_lookup (xv := .map (some C)) (yv := .agg #[Vi c.2.2.1, Vi c.2.2.2.1]) (.bool ((mget L (c.2.2.1, c.2.2.2.1)).getD false)) R R R R (MapH.get tmap143 tkey146 (c.2.2.1, c.2.2.2.1) false (fun H => by kernel_rfl) A nn) ?_))
   refine Xu 1 [(87, .bool ((mget L (c.2.2.1, c.2.2.2.1)).getD false))] (Xk (Cn [(0, Vl l f m), (3, .map (some B)), (4, .map (some C)), (5, Vl q o w), (6, Vi u), (8, Vp E 0), (10, Vp ae 0), (26, Vl l f m), (27, Vi ((f).length : Int)), (28, Vi n), (87, .bool ((mget L (c.2.2.1, c.2.2.2.1)).getD false))] (fun D => ?_)))
   refine Ci _ R a (fun a => ?_) (fun a => ?_)
   · refine Cs (Xu 1 [(2, Vi 17)] (Xk (Cr (Kr (Kb (Kr ?_))))))
     obtain rfl := Sj a
     have x := Sj F
     subst x
     have a := O
     refine Kr (Kb (Kr (Rz (Vi 17) R ?_)))
     obtain rfl := Sj a
     exact ⟨R, g⟩
   refine Ck (Kt (Cs (Xu 1 [(88, .map (some C))] (Yl _ _ R (Ra 0 [Vi c.2.2.1, Vi c.2.2.2.1] tagg146 aa nn R) ?_))))
   obtain ⟨bt, bc, a7, ar⟩ := MapH.upd tmap143 tkey146 (c.2.2.1, c.2.2.2.1) true A
   refine x_mapUpdate (xv := .map (some C)) (yv := .agg #[Vi c.2.2.1, Vi c.2.2.2.1]) (zv := .bool true) bt R R R R R bc (I1 ?_)
   obtain ⟨h, v, i, t, d⟩ := E5 (Cx.j d 3 ar) h v i t d
   have g := g.th ar k 3
   have A := a7
   refine Xk (Cs (Xu 1 [(90, Vl q o w)] (Yg E 0 2 (Vi c.2.2.1) R R (Rf tfld79_2 _) tcell3 t nn R ?_)))
   obtain ⟨Q, aE, a⟩ := Bs a
   refine Xq0 (i.el tsl22) tcell3 aE R (fun _ => R) (fun _ => Xu 1 [(95, Vi (i64.wrap (Q + 1)))] ?_)
   obtain ⟨bO, aj, a⟩ := Bs a
   obtain ⟨bx, bw, aQ, bd, bz, ag⟩ := Oi (Mo := []) tsl22 i aj
   obtain rfl := ag
   refine Yi _ _ _ R bd ?_
   have aG := aj
   have aF := aE
   obtain ⟨bI, be, au, a8⟩ := own_storeE aQ (y := i64.wrap (Q + 1)) 0 (Vi (i64.wrap (Q + 1))) tcell3 i (Mf 4 R) aj R R (fun _ _ _ ag => set_int ag)
   refine Xp be R ?_
   obtain ⟨h, v, A, t, d⟩ := E5 (Cx.j d 4 au) h v A t d
   have g := g.th au k 4
   have i := a8
   have bh : (Vl q o w) = (Vl q ((o.set (Int.toNat c.2.2.1) (i64.wrap (Q + 1)))) w) := by simp only [Vl, List.length_set]
   try rw [bh]
   obtain ⟨_, aF⟩ : ∃ y, idx (o.set (Int.toNat c.2.2.1) (i64.wrap (Q + 1))) c.2.2.1 = some y := idx_set_any aF _ _
   replace aG : idx (o.set (Int.toNat c.2.2.1) (i64.wrap (Q + 1))) c.2.2.1 = some (i64.wrap (Q + 1)) := idx_set_self aG _
   refine Xk (Cs (Yg E 0 0 (Vi c.1) R R (Rf tfld79_0 _) tcell3 t nn R (Xu 1 [(99, .bool (c.1 == 4))] (Xk (Ci _ R a (fun a => ?_) (fun a => ?_))))))
   · refine Cp (Xu 3 [(100, Vi u), (101, Vi (i64.wrap (u + 1))), (6, Vi (i64.wrap (u + 1)))] (Xe R (Kl (Kt (Cp (Xu 2 [(102, Vi (i64.wrap (n + 1))), (28, Vi (i64.wrap (n + 1)))] (Xe R ?_)))))))
     obtain rfl := Sj a
     obtain ⟨h, i, d⟩ := E3 (Cx.s d [2, 3, 4, 5]) h i d
     have k := k.px [2, 3, 4]
     exact Kt ⟨(U, (mput N c.2.1 true), (mput L (c.2.2.1, c.2.2.2.1) true), (o.set (Int.toNat c.2.2.1) (i64.wrap (Q + 1))), i64.wrap (u + 1), i64.wrap (n + 1)), ⟨R, R, R, R, R, R, R, R, T0⟩, ⟨F, g, d, k, h, v, A, i⟩, Ns _⟩
   refine Ck (Kl (Kt (Cp (Xu 2 [(102, Vi (i64.wrap (n + 1))), (28, Vi (i64.wrap (n + 1)))] (Xe R ?_)))))
   obtain rfl := Sj a
   obtain ⟨h, i, d⟩ := E3 (Cx.s d [2, 3, 4, 5]) h i d
   have k := k.px [2, 3, 4]
   exact Kt ⟨(U, (mput N c.2.1 true), (mput L (c.2.2.1, c.2.2.2.1) true), (o.set (Int.toNat c.2.2.1) (i64.wrap (Q + 1))), u, i64.wrap (n + 1)), ⟨R, R, R, R, R, R, R, R, T0⟩, ⟨F, g, d, k, h, v, A, i⟩, Ns _⟩
 refine Ce (Ke ?_)
 obtain rfl := Sj a
 have x := Sj F
 subst x
 have a := O
 refine Ke (Ki (Kt (Cn [(0, Vl l f m), (5, Vl q o w), (6, Vi u)] (fun D => ?_))))
 refine Cq (Cs (Xu 1 [(103, Vl l f m)] (Xz tsl28 R (Xu 1 [(105, Vi 0)] (Xk (Cb ?_))))))
 obtain ⟨i, h, d⟩ := E3 (Cx.s d [2, 3]) i h d
 have k := k.px [2]
 obtain ⟨aO, ai, ab⟩ := Bs a
 obtain ⟨S, ai⟩ := Lo ai
 refine Cl (Lr hmx (σ := Nat × Int) (fun J => match J with | (_, r) => [(5, Vl q o w), (6, Vi u), (103, Vl l f m), (104, Vi ((f).length : Int)), (105, Vi r)]) (fun J G => match J with | (ak, r) => loopN (layout_Valid_L37 f o) ak r = some aO ∧ Ev [] H G ∧ (fun X => MS G X ∧ FR H.heap.size [Bk q] ∧ OwnS eI 3 G (fl X) q w o ∧ SlR (eProd eI (eProd eStr (eProd eI (eProd eI (eIt4))))) G (fl X) l m f) [Bk q, Z]) (fun J => J.1) (S, 0) ⟨R, R, R, R, R, T0⟩ ⟨ai, g, d, k, i, h⟩ ?_)
 rintro ⟨S, r⟩ D bN ⟨I, g, d, k, i, h⟩
 rcases S with _ | S
 · exact (Lz I).elim
 obtain ⟨bD, a, I⟩ := Bs I
 refine Cs (Xu 1 [(106, Bd (r < ((f).length : Int)))] (Xk (Cn [(5, Vl q o w), (6, Vi u), (103, Vl l f m), (104, Vi ((f).length : Int)), (105, Vi r), (106, Bd (r < ((f).length : Int)))] (fun D => ?_))))
 refine Cq (Ci _ R a (fun a => ?_) (fun a => ?_))
 · refine Ck (Kt (Cq (Cb (Cs (Xu 1 [(107, Vi r)] ?_)))))
   obtain ⟨z, bm, a⟩ := Bs a
   refine Xqa [Vi z.1, Vs z.2.1, Vi z.2.2.1, Vi z.2.2.2.1, Vi z.2.2.2.2.1, Vi z.2.2.2.2.2.1, Vi z.2.2.2.2.2.2.1, Vi z.2.2.2.2.2.2.2] (h.el tsl28) tagg79 bm R (fun _ => R) (fun _ => Xj #[Vi 0, Vs ([] : List UInt8), Vi 0, Vi 0, Vi 0, Vi 0, Vi 0, Vi 0] R (fun af bJ aC Y a4 => ?_))
   have k := k.box g.size aC
   obtain ⟨i, h, d, g⟩ := E4 (Cx.b d a4 aC Y) i h d g
   refine Xu 1 [(11, Vi r)] ?_
   obtain ⟨bK, bf, aY, av⟩ := Sa [Vi z.1, Vs z.2.1, Vi z.2.2.1, Vi z.2.2.2.1, Vi z.2.2.2.2.1, Vi z.2.2.2.2.2.1, Vi z.2.2.2.2.2.2.1, Vi z.2.2.2.2.2.2.2] tagg79 Y R R R
   refine Xp bf R ?_
   obtain ⟨i, h, d⟩ := E3 (Cx.j d 0 av) i h d
   have g := g.th av k 0
   have Y := aY
   refine Xk (Cs (Yg af 0 0 (Vi z.1) R R (Rf tfld79_0 _) tcell3 Y nn R (Xu 2 [(112, .bool (z.1 == 3)), (113, .bool (z.1 == 3))] (Xw 113 _ R a (fun a => ?_) (fun a => ?_)))))
   · refine Xu 2 [(114, Vl q o w), (115, Vi r)] ?_
     obtain ⟨al, bn, a⟩ := Bs a
     refine Xq0 (i.el tsl22) tcell3 bn R (fun _ => R) (fun _ => Xu 3 [(118, Bd (al < 2)), (119, Bd (al < 2)), (120, Bd (al < 2))] (Xw 120 _ R a (fun a => ?_) (fun a => ?_)))
     · refine Xu 11 (Un 121 10 ++ [(131, .bool true)]) (Xk (Cn [(5, Vl q o w), (6, Vi u), (103, Vl l f m), (104, Vi ((f).length : Int)), (105, Vi r), (131, .bool true)] (fun D => ?_)))
       refine c_true R (Cs (Xu 1 [(2, Vi 13)] (Xk (Cr (Kb (Kr ?_))))))
       obtain rfl := Sj a
       have x := Sj I
       subst x
       have a := ab
       refine Kr (Kb (Kr (Rz (Vi 13) R ?_)))
       obtain rfl := Sj a
       exact ⟨R, g⟩
     refine Yg af 0 0 (Vi z.1) R R (Rf tfld79_0 _) tcell3 Y nn R (Xu 2 [(123, .bool (z.1 != 4)), (124, .bool (z.1 != 4))] (Xw 124 _ R a (fun a => ?_) (fun a => ?_)))
     · refine Xu 2 [(125, Vl q o w), (126, Vi r)] ?_
       obtain ⟨ac, bo, a⟩ := Bs a
       refine Xq0 (i.el tsl22) tcell3 bo R (fun _ => R) (fun _ => Xu 3 [(129, Bd (ac < 1)), (130, Bd (ac < 1)), (131, Bd (ac < 1))] (Xk (Cn [(5, Vl q o w), (6, Vi u), (103, Vl l f m), (104, Vi ((f).length : Int)), (105, Vi r), (131, Bd (ac < 1))] (fun D => ?_))))
       refine Ci _ R a (fun a => ?_) (fun a => ?_)
       · refine Cs (Xu 1 [(2, Vi 13)] (Xk (Cr (Kb (Kr ?_)))))
         obtain rfl := Sj a
         have x := Sj I
         subst x
         have a := ab
         refine Kr (Kb (Kr (Rz (Vi 13) R ?_)))
         obtain rfl := Sj a
         exact ⟨R, g⟩
       refine Ck (Kl (Kt (Cp (Xu 2 [(132, Vi (i64.wrap (r + 1))), (105, Vi (i64.wrap (r + 1)))] (Xe R ?_)))))
       obtain rfl := Sj a
       obtain ⟨i, h, d⟩ := E3 (Cx.s d [1, 2]) i h d
       have k := k.px [1]
       exact Kt ⟨(S, i64.wrap (r + 1)), ⟨R, R, R, R, R, T0⟩, ⟨I, g, d, k, i, h⟩, Ns _⟩
     refine Xu 7 (Un 125 5 ++ [(130, .bool false), (131, .bool false)]) (Xk (Cn [(5, Vl q o w), (6, Vi u), (103, Vl l f m), (104, Vi ((f).length : Int)), (105, Vi r), (131, .bool false)] (fun D => ?_)))
     refine c_false R (Ck (Kl (Kt (Cp (Xu 2 [(132, Vi (i64.wrap (r + 1))), (105, Vi (i64.wrap (r + 1)))] (Xe R ?_))))))
     obtain rfl := Sj a
     obtain ⟨i, h, d⟩ := E3 (Cx.s d [1, 2]) i h d
     have k := k.px [1]
     exact Kt ⟨(S, i64.wrap (r + 1)), ⟨R, R, R, R, R, T0⟩, ⟨I, g, d, k, i, h⟩, Ns _⟩
   refine Xu 7 [(114, U0), (115, U0), (116, U0), (117, U0), (118, U0), (119, .bool false), (120, .bool false)] (Yg af 0 0 (Vi z.1) R R (Rf tfld79_0 _) tcell3 Y nn R (Xu 2 [(123, .bool (z.1 != 4)), (124, .bool (z.1 != 4))] (Xw 124 _ R a (fun a => ?_) (fun a => ?_))))
   · refine Xu 2 [(125, Vl q o w), (126, Vi r)] ?_
     obtain ⟨ad, bp, a⟩ := Bs a
     refine Xq0 (i.el tsl22) tcell3 bp R (fun _ => R) (fun _ => Xu 3 [(129, Bd (ad < 1)), (130, Bd (ad < 1)), (131, Bd (ad < 1))] (Xk (Cn [(5, Vl q o w), (6, Vi u), (103, Vl l f m), (104, Vi ((f).length : Int)), (105, Vi r), (131, Bd (ad < 1))] (fun D => ?_))))
     refine Ci _ R a (fun a => ?_) (fun a => ?_)
     · refine Cs (Xu 1 [(2, Vi 13)] (Xk (Cr (Kb (Kr ?_)))))
       obtain rfl := Sj a
       have x := Sj I
       subst x
       have a := ab
       refine Kr (Kb (Kr (Rz (Vi 13) R ?_)))
       obtain rfl := Sj a
       exact ⟨R, g⟩
     refine Ck (Kl (Kt (Cp (Xu 2 [(132, Vi (i64.wrap (r + 1))), (105, Vi (i64.wrap (r + 1)))] (Xe R ?_)))))
     obtain rfl := Sj a
     obtain ⟨i, h, d⟩ := E3 (Cx.s d [1, 2]) i h d
     have k := k.px [1]
     exact Kt ⟨(S, i64.wrap (r + 1)), ⟨R, R, R, R, R, T0⟩, ⟨I, g, d, k, i, h⟩, Ns _⟩
   refine Xu 7 (Un 125 5 ++ [(130, .bool false), (131, .bool false)]) (Xk (Cn [(5, Vl q o w), (6, Vi u), (103, Vl l f m), (104, Vi ((f).length : Int)), (105, Vi r), (131, .bool false)] (fun D => ?_)))
   refine c_false R (Ck (Kl (Kt (Cp (Xu 2 [(132, Vi (i64.wrap (r + 1))), (105, Vi (i64.wrap (r + 1)))] (Xe R ?_))))))
   obtain rfl := Sj a
   obtain ⟨i, h, d⟩ := E3 (Cx.s d [1, 2]) i h d
   have k := k.px [1]
   exact Kt ⟨(S, i64.wrap (r + 1)), ⟨R, R, R, R, R, T0⟩, ⟨I, g, d, k, i, h⟩, Ns _⟩
 refine Ce (Ke ?_)
 obtain rfl := Sj a
 have x := Sj I
 subst x
 have a := ab
 refine Ke (Ki (Kt (Cn [(6, Vi u)] (fun D => ?_))))
 refine Cq (Cs (Xu 2 [(133, Vi u), (134, Bd (u > 32))] (Xk (Ci _ R a (fun a => ?_) (fun a => ?_)))))
 · refine Cs (Xu 1 [(2, Vi 3)] (Xk (Cr (Kr (Rz (Vi 3) R ?_)))))
   obtain rfl := Sj a
   exact ⟨R, g⟩
 refine Ck (Kt (Cs (Xu 1 [(2, Vi 0)] (Xk (Cr (Rz (Vi 0) R ?_))))))
 obtain rfl := Sj a
 exact ⟨R, g⟩
def layout_word (a : Int) : Option (List UInt8) :=
(if (a == 0) = true then
some ([99, 114, 101, 115, 116] : List UInt8)
else
(if (a == 1) = true then
some ([115, 101, 103, 109, 101, 110, 116] : List UInt8)
else
(if (a == 2) = true then
some ([114, 101, 116, 97, 114, 100, 101, 114] : List UInt8)
else
(if (a == 3) = true then
some ([115, 119, 105, 116, 99, 104] : List UInt8)
else
some ([116, 114, 97, 99, 107] : List UInt8)))))
theorem layout_word_w (b e d) (a : layout_word b = some e) : CallVC Tryz.prog 25 [Vi b] d fun f g => f = Vs e ∧ Ev [] d g := by
 refine Cw hmx Tryz.func25 R R R ?_
 have c := Ev.refl [] d
 refine Cs (Xu 1 [(2, Vs ([] : List UInt8))] (Xk (Cq (Cs (Xu 1 [(3, Vi b)] (Xk (Cb (Cs (Xu 2 [(5, .bool (b == 0)), (4, .bool (b == 0))] ?_)))))))))
 refine Xk (Ci _ R a (fun a => ?_) (fun a => ?_))
 · refine Cs (Xu 1 [(2, Vs ([99, 114, 101, 115, 116] : List UInt8))] (Xk (Cr (Kb (Kr (Rz (Vs ([99, 114, 101, 115, 116] : List UInt8)) R ?_))))))
   obtain rfl := Sj a
   exact ⟨R, c⟩
 refine Cs (Xu 2 [(7, .bool (b == 1)), (6, .bool (b == 1))] (Xk (Ci _ R a (fun a => ?_) (fun a => ?_))))
 · refine Cs (Xu 1 [(2, Vs ([115, 101, 103, 109, 101, 110, 116] : List UInt8))] (Xk (Cr (Kb (Kr (Rz (Vs ([115, 101, 103, 109, 101, 110, 116] : List UInt8)) R ?_))))))
   obtain rfl := Sj a
   exact ⟨R, c⟩
 refine Cs (Xu 2 [(9, .bool (b == 2)), (8, .bool (b == 2))] (Xk (Ci _ R a (fun a => ?_) (fun a => ?_))))
 · refine Cs (Xu 1 [(2, Vs ([114, 101, 116, 97, 114, 100, 101, 114] : List UInt8))] (Xk (Cr (Kb (Kr (Rz (Vs ([114, 101, 116, 97, 114, 100, 101, 114] : List UInt8)) R ?_))))))
   obtain rfl := Sj a
   exact ⟨R, c⟩
 refine Cs (Xu 2 [(11, .bool (b == 3)), (10, .bool (b == 3))] (Xk (Ci _ R a (fun a => ?_) (fun a => ?_))))
 · refine Cs (Xu 1 [(2, Vs ([115, 119, 105, 116, 99, 104] : List UInt8))] (Xk (Cr (Kb (Kr (Rz (Vs ([115, 119, 105, 116, 99, 104] : List UInt8)) R ?_))))))
   obtain rfl := Sj a
   exact ⟨R, c⟩
 refine Ck (Kl (Kt (Cs (Xu 1 [(2, Vs ([116, 114, 97, 99, 107] : List UInt8))] (Xk (Cr (Rz (Vs ([116, 114, 97, 99, 107] : List UInt8)) R ?_)))))))
 obtain rfl := Sj a
 exact ⟨R, c⟩
def layout_suffix (a : Int) : Option (List UInt8) :=
(if (a == 1) = true then
some ([58, 108, 101, 102, 116] : List UInt8)
else
(if (a == 2) = true then
some ([58, 114, 105, 103, 104, 116] : List UInt8)
else
some ([] : List UInt8)))
theorem layout_suffix_w (b e d) (a : layout_suffix b = some e) : CallVC Tryz.prog 26 [Vi b] d fun f g => f = Vs e ∧ Ev [] d g := by
 refine Cw hmx Tryz.func26 R R R ?_
 have c := Ev.refl [] d
 refine Cs (Xu 1 [(2, Vs ([] : List UInt8))] (Xk (Cq (Cs (Xu 1 [(3, Vi b)] (Xk (Cb (Cs (Xu 2 [(5, .bool (b == 1)), (4, .bool (b == 1))] ?_)))))))))
 refine Xk (Ci _ R a (fun a => ?_) (fun a => ?_))
 · refine Cs (Xu 1 [(2, Vs ([58, 108, 101, 102, 116] : List UInt8))] (Xk (Cr (Kb (Kr (Rz (Vs ([58, 108, 101, 102, 116] : List UInt8)) R ?_))))))
   obtain rfl := Sj a
   exact ⟨R, c⟩
 refine Cs (Xu 2 [(7, .bool (b == 2)), (6, .bool (b == 2))] (Xk (Ci _ R a (fun a => ?_) (fun a => ?_))))
 · refine Cs (Xu 1 [(2, Vs ([58, 114, 105, 103, 104, 116] : List UInt8))] (Xk (Cr (Kb (Kr (Rz (Vs ([58, 114, 105, 103, 104, 116] : List UInt8)) R ?_))))))
   obtain rfl := Sj a
   exact ⟨R, c⟩
 refine Ck (Kl (Kt (Cs (Xu 1 [(2, Vs ([] : List UInt8))] (Xk (Cr (Rz (Vs ([] : List UInt8)) R ?_)))))))
 obtain rfl := Sj a
 exact ⟨R, c⟩
def layout_Format_J17 (c : Int) (a : Int × (List UInt8) × Int × Int × Int × Int × Int × Int) (b : List UInt8) : Option (Step ((List UInt8) × Int) (List UInt8)) :=
(if (a.1 == 2) = true then
(if (-9223372036854775808 : Int) ≤ a.2.2.2.2.2.2.2 ∧ (a.2.2.2.2.2.2.2 : Int) ≤ 9223372036854775807 then
(if ([32] : List UInt8).length + (itoaL a.2.2.2.2.2.2.2).length ≤ 4294967296 then
(if b.length + (([32] : List UInt8) ++ (itoaL a.2.2.2.2.2.2.2)).length ≤ 140737488355328 then
(if (0 : Int) ≤ 10 ∧ (10 : Int) < 256 ∧ (b ++ (([32] : List UInt8) ++ (itoaL a.2.2.2.2.2.2.2))).length + 1 ≤ 140737488355328 then
some (.next (((b ++ (([32] : List UInt8) ++ (itoaL a.2.2.2.2.2.2.2))) ++ [UInt8.ofNat (Int.toNat 10)]), i64.wrap (c + 1)))
else none)
else none)
else none)
else none)
else
(if (0 : Int) ≤ 10 ∧ (10 : Int) < 256 ∧ b.length + 1 ≤ 140737488355328 then
some (.next ((b ++ [UInt8.ofNat (Int.toNat 10)]), i64.wrap (c + 1)))
else none))
def layout_Format_L23 (d : Int × (List UInt8) × Int × Int × Int × Int × Int × Int) (e : (List UInt8) × Int) : Option (Step ((List UInt8) × Int) (List UInt8)) :=
match e with
| (b, c) =>
(if (decide (c < 3)) = true then
((idx ([d.2.2.2.2.1, d.2.2.2.2.2.1, d.2.2.2.2.2.2.1] : List Int) c).bind fun a =>
(if (-9223372036854775808 : Int) ≤ a ∧ (a : Int) ≤ 9223372036854775807 then
(if ([32] : List UInt8).length + (itoaL a).length ≤ 4294967296 then
(if b.length + (([32] : List UInt8) ++ (itoaL a)).length ≤ 140737488355328 then
some (.next ((b ++ (([32] : List UInt8) ++ (itoaL a))), i64.wrap (c + 1)))
else none)
else none)
else none))
else
some (.done b))
def layout_Format_L7 (f : List (Int × (List UInt8) × Int × Int × Int × Int × Int × Int)) (j : (List UInt8) × Int) : Option (Step ((List UInt8) × Int) (List UInt8)) :=
match j with
| (c, d) =>
(if (decide (d < ((f).length : Int))) = true then
((idx f d).bind fun a =>
((layout_word a.1).bind fun b =>
(if b.length + ([32] : List UInt8).length ≤ 4294967296 then
(if (b ++ ([32] : List UInt8)).length + a.2.1.length ≤ 4294967296 then
(if c.length + ((b ++ ([32] : List UInt8)) ++ a.2.1).length ≤ 140737488355328 then
(if (a.1 != 0) = true then
((idx f a.2.2.1).bind fun e =>
(if ([32] : List UInt8).length + e.2.1.length ≤ 4294967296 then
((layout_suffix a.2.2.2.1).bind fun g =>
(if (([32] : List UInt8) ++ e.2.1).length + g.length ≤ 4294967296 then
(if (c ++ ((b ++ ([32] : List UInt8)) ++ a.2.1)).length + ((([32] : List UInt8) ++ e.2.1) ++ g).length ≤ 140737488355328 then
((loop (layout_Format_L23 a) (((c ++ ((b ++ ([32] : List UInt8)) ++ a.2.1)) ++ ((([32] : List UInt8) ++ e.2.1) ++ g)), 0)).bind fun h => match h with
| i => layout_Format_J17 d a i)
else none)
else none))
else none))
else
layout_Format_J17 d a (c ++ ((b ++ ([32] : List UInt8)) ++ a.2.1)))
else none)
else none)
else none)))
else
some (.done c))
def layout_Format (b : List (Int × (List UInt8) × Int × Int × Int × Int × Int × Int)) : Option ((List UInt8) × Int) :=
((layout_Valid b).bind fun c =>
(if (c != 0) = true then
some (([] : List UInt8), c)
else
((loop (layout_Format_L7 b) (([] : List UInt8), 0)).bind fun d => match d with
| a => (if a ≠ [] then
some (a, 0)
else none))))
theorem layout_Format_w (n p m ai x D) (hgl : GL Tryz.prog 1 x) (d : MS x [D]) (h : SlR (eProd eI (eProd eStr (eProd eI (eProd eI (eIt4))))) x (fl [D]) n p m) (a : layout_Format m = some ai) : CallVC Tryz.prog 5 [Vl n m p] x fun y v => y = .tuple #[Vs ai.1, Vi ai.2] ∧ Ev [] x v := by
 refine Cw hmx Tryz.func5 R R R ?_
 have g := Ev.refl [] x
 have i := FR.nil x.heap.size
 refine Cs (Xu 2 [(2, Vs ([] : List UInt8)), (3, Vi 0)] (Xk (Cq (Cs (Xu 1 [(10, Vl n m p)] ?_)))))
 obtain ⟨U, Y, a⟩ := Bs a
 obtain ⟨aY, a0⟩ := Kc d [] [0]
 have q := layout_Valid_w n p m _ x _ aY (h.sub a0) Y
 refine Xv q R ?_
 rintro y bp ⟨rfl, aU⟩
 obtain ⟨h, d, g⟩ := E3 (Cx.e d aU) h d g
 refine Xu 1 [(4, Vi U)] (Xk (Cs (Xu 2 [(12, Vi U), (13, .bool (U != 0))] (Xk (Ci _ R a (fun a => ?_) (fun a => ?_))))))
 · refine Cs (Xu 3 [(14, Vi U), (2, Vs ([] : List UInt8)), (3, Vi U)] (Xk (Cr (Kr (Rr (Rv [Vs ([] : List UInt8), Vi U] ⟨R, R, T0⟩ ?_))))))
   obtain rfl := Sj a
   exact ⟨R, g⟩
 refine Ck (Kt (Cs (Xa (z := .agg #[.pointer none, Z0]) R R (by kernel_rfl) (fun A bq aE al aX bc => ?_))))
 refine I1 ?_
 have i := i.box g.size aE
 obtain ⟨h, d, g⟩ := E3 (Cx.b d aX aE al) h d g
 have k := BldH.new (T := 77) (e := 5) al
 refine Xk (Cq (Cs (Xu 1 [(15, Vl n m p)] (Xz tsl28 R (Xu 1 [(17, Vi 0)] (Xk (Cb ?_)))))))
 obtain ⟨aL, ac, aO⟩ := Bs a
 obtain ⟨Q, ac⟩ := Lo ac
 refine Cl (Lr hmx (σ := Nat × (List UInt8) × Int × List Nat) (fun w => match w with | (_, E, t, K) => [(0, Vl n m p), (5, Vp A 0), (15, Vl n m p), (16, Vi ((m).length : Int)), (17, Vi t)]) (fun w v => match w with | (ah, E, t, K) => loopN (layout_Format_L7 m) ah (E, t) = some aL ∧ Ev [] x v ∧ MS v [K, D] ∧ FR x.heap.size [K] ∧ SlR (eProd eI (eProd eStr (eProd eI (eProd eI (eIt4))))) v (fl [K, D]) n p m ∧ BldH 77 5 v K A E) (fun w => w.1) (Q, ([] : List UInt8), 0, [A]) ⟨R, R, R, R, R, T0⟩ ⟨ac, g, d, i, h, k⟩ ?_)
 rintro ⟨Q, E, t, K⟩ H bt ⟨O, g, d, i, h, k⟩
 rcases Q with _ | Q
 · exact (Lz O).elim
 obtain ⟨ba, a, O⟩ := Bs O
 refine Cs (Xu 1 [(18, Bd (t < ((m).length : Int)))] (Xk (Cn [(0, Vl n m p), (5, Vp A 0), (15, Vl n m p), (16, Vi ((m).length : Int)), (17, Vi t), (18, Bd (t < ((m).length : Int)))] (fun H => ?_))))
 refine Cq (Ci _ R a (fun a => ?_) (fun a => ?_))
 · refine Ck (Kt (Cq (Cb (Cs ?_))))
   obtain ⟨c, a9, a⟩ := Bs a
   refine Xqa [Vi c.1, Vs c.2.1, Vi c.2.2.1, Vi c.2.2.2.1, Vi c.2.2.2.2.1, Vi c.2.2.2.2.2.1, Vi c.2.2.2.2.2.2.1, Vi c.2.2.2.2.2.2.2] (h.el tsl28) tagg79 a9 R (fun _ => R) (fun _ => Xj #[Vi 0, Vs ([] : List UInt8), Vi 0, Vi 0, Vi 0, Vi 0, Vi 0, Vi 0] R (fun o be aD l am => ?_))
   have k := k.step am nn2
   have i := i.box g.size aD
   obtain ⟨h, d, g⟩ := E3 (Cx.b d am aD l) h d g
   obtain ⟨aj, aZ, aQ, ad⟩ := Sa [Vi c.1, Vs c.2.1, Vi c.2.2.1, Vi c.2.2.2.1, Vi c.2.2.2.2.1, Vi c.2.2.2.2.2.1, Vi c.2.2.2.2.2.2.1, Vi c.2.2.2.2.2.2.2] tagg79 l R R R
   refine Xp aZ R ?_
   have k := k.step ad (d.apart 1 0 R R R)
   obtain ⟨h, d⟩ := E2 (Cx.j d 0 ad) h d
   have g := g.th ad i 0
   have l := aQ
   refine Xk (Cq (Cd [] [(0, false), (1, false), (4, false), (5, false), (2, false), (3, false), (6, false), (7, true)] _ (by kernel_rfl) R ?_))
   have k := k.step (Ev.drew aj) nn2
   obtain ⟨h, l, d, g⟩ := E4 (Cx.e d (Ev.drew aj)) h l d g
   refine Yg o 0 0 (Vi c.1) R R (Rf tfld79_0 _) tcell3 l nn R (Yg o 0 1 (Vs c.2.1) R R (Rf tfld79_1 _) tcell9 l nn R ?_)
   obtain ⟨I, Y, a⟩ := Bs a
   have q := layout_word_w c.1 _ (aj).drew Y
   refine Xc 25 #[] #[] _ _ R R R R q ?_
   rintro y bf ⟨rfl, ae⟩
   refine ⟨.inr ae, ?_⟩
   have k := k.step ae nn2
   obtain ⟨h, l, d, g⟩ := E4 (Cx.e d ae) h l d g
   refine x_binop (Vs (I ++ ([32] : List UInt8))) (Vs I) (Vs ([32] : List UInt8)) R R R R (bin_sadd (Gl a)) ?_
   have a := Gr a
   refine x_binop (Vs ((I ++ ([32] : List UInt8)) ++ c.2.1)) (Vs (I ++ ([32] : List UInt8))) (Vs c.2.1) R R R R (bin_sadd (Gl a)) ?_
   have a := Gr a
   have r := Gl a
   have a := Gr a
   have q := ws_w Lws Lwsx (f := 24) (T := 77) (e := 5) R R R ⟨_, Tryz.func24, by kernel_rfl, R⟩ k ((I ++ ([32] : List UInt8)) ++ c.2.1) r
   refine Xv q R ?_
   rintro y ak ⟨rfl, an, aF, ax, a1⟩
   obtain ⟨h, l, d⟩ := E3 (Cx.u d 1 an ax) h l d
   have B := i.ux 1 g ax
   have g := g.th an i 1
   have i := B
   have k := a1
   refine Xk (c_join (σ := (List UInt8) × List Nat) (fun w => match w with | (L, J) => [(0, Vl n m p), (5, Vp A 0), (7, Vp o 0), (15, Vl n m p), (16, Vi ((m).length : Int)), (17, Vi t)]) (fun w v => match w with | (L, J) => layout_Format_J17 t c L = some ba ∧ Ev [] x v ∧ MS v [J, [o], D] ∧ FR x.heap.size [J, [o]] ∧ SlR (eProd eI (eProd eStr (eProd eI (eProd eI (eIt4))))) v (fl [J, [o], D]) n p m ∧ BldH 77 5 v J A L ∧ v.heap[o]? = some (.cells #[Vi c.1, Vs c.2.1, Vi c.2.2.1, Vi c.2.2.2.1, Vi c.2.2.2.2.1, Vi c.2.2.2.2.2.1, Vi c.2.2.2.2.2.2.1, Vi c.2.2.2.2.2.2.2] 79 (0, 0))) ?_ ?_)
   · refine Cs (Yg o 0 0 (Vi c.1) R R (Rf tfld79_0 _) tcell3 l nn R (Xu 1 [(31, .bool (c.1 != 0))] (Xk (Ci _ R a (fun a => ?_) (fun a => ?_)))))
     · refine Cq (Cd [] [(0, false), (1, false), (2, false), (3, false), (4, false), (5, false), (6, false), (7, false), (8, false), (9, false), (10, false), (11, true)] _ (by kernel_rfl) R ?_)
       have k := k.step (Ev.drew ak) nn2
       obtain ⟨h, l, d, g⟩ := E4 (Cx.e d (Ev.drew ak)) h l d g
       refine Xu 1 [(32, Vl n m p)] (Yg o 0 2 (Vi c.2.2.1) R R (Rf tfld79_2 _) tcell3 l nn R ?_)
       obtain ⟨S, a7, a⟩ := Bs a
       refine Xq (h.el tsl28) tfld79_1 tcell9 a7 R (fun _ => R) (fun _ => x_binop (Vs (([32] : List UInt8) ++ S.2.1)) (Vs ([32] : List UInt8)) (Vs S.2.1) R R R R (bin_sadd (Gl a)) ?_)
       have a := Gr a
       refine Yg o 0 3 (Vi c.2.2.2.1) R R (Rf tfld79_3 _) tcell3 l nn R ?_
       obtain ⟨aa, Y, a⟩ := Bs a
       have q := layout_suffix_w c.2.2.2.1 _ (ak).drew Y
       refine Xc 26 #[] #[] _ _ R R R R q ?_
       rintro y bg ⟨rfl, af⟩
       refine ⟨.inr af, ?_⟩
       have k := k.step af nn2
       obtain ⟨h, l, d, g⟩ := E4 (Cx.e d af) h l d g
       refine x_binop (Vs ((([32] : List UInt8) ++ S.2.1) ++ aa)) (Vs (([32] : List UInt8) ++ S.2.1)) (Vs aa) R R R R (bin_sadd (Gl a)) ?_
       have a := Gr a
       have r := Gl a
       have a := Gr a
       have q := ws_w Lws Lwsx (f := 24) (T := 77) (e := 5) R R R ⟨_, Tryz.func24, by kernel_rfl, R⟩ k ((([32] : List UInt8) ++ S.2.1) ++ aa) r
       refine Xv q R ?_
       rintro y bh ⟨rfl, ao, aG, ay, a2⟩
       obtain ⟨h, l, d⟩ := E3 (Cx.u d 1 ao ay) h l d
       have B := i.ux 1 g ay
       have g := g.th ao i 1
       have i := B
       have k := a2
       refine Xk (Cn [(0, Vl n m p), (5, Vp A 0), (7, Vp o 0), (15, Vl n m p), (16, Vi ((m).length : Int)), (17, Vi t)] (fun H => ?_))
       refine Cs (Yg o 0 4 (Vi c.2.2.2.2.1) R R (Rf tfld79_4 _) tcell3 l nn R (Yg o 0 5 (Vi c.2.2.2.2.2.1) R R (Rf tfld79_5 _) tcell3 l nn R (Yg o 0 6 (Vi c.2.2.2.2.2.2.1) R R (Rf tfld79_6 _) tcell3 l nn R (Xg (.agg #[Vi c.2.2.2.2.1, Vi c.2.2.2.2.2.1, Vi c.2.2.2.2.2.2.1]) R (Xu 1 [(51, Vi 0)] (Xk ?_))))))
       refine Cb ?_
       obtain ⟨h, d⟩ := E2 (Cx.s d [1, 0, 2]) h d
       have i := i.px [1, 0]
       obtain ⟨aK, ab, aN⟩ := Bs a
       obtain ⟨Z, ab⟩ := Lo ab
       refine Cl (Lr hmx (σ := Nat × (List UInt8) × Int × List Nat) (fun w => match w with | (_, N, C, G) => [(0, Vl n m p), (5, Vp A 0), (7, Vp o 0), (15, Vl n m p), (16, Vi ((m).length : Int)), (17, Vi t), (50, .agg #[Vi c.2.2.2.2.1, Vi c.2.2.2.2.2.1, Vi c.2.2.2.2.2.2.1]), (51, Vi C)]) (fun w v => match w with | (ah, N, C, G) => loopN (layout_Format_L23 c) ah (N, C) = some aK ∧ Ev [] x v ∧ MS v [G, [o], D] ∧ FR x.heap.size [G, [o]] ∧ SlR (eProd eI (eProd eStr (eProd eI (eProd eI (eIt4))))) v (fl [G, [o], D]) n p m ∧ BldH 77 5 v G A N ∧ v.heap[o]? = some (.cells #[Vi c.1, Vs c.2.1, Vi c.2.2.1, Vi c.2.2.2.1, Vi c.2.2.2.2.1, Vi c.2.2.2.2.2.1, Vi c.2.2.2.2.2.2.1, Vi c.2.2.2.2.2.2.2] 79 (0, 0))) (fun w => w.1) (Z, ((E ++ ((I ++ ([32] : List UInt8)) ++ c.2.1)) ++ ((([32] : List UInt8) ++ S.2.1) ++ aa)), 0, aG) ⟨R, R, R, R, R, R, R, R, T0⟩ ⟨ab, g, d, i, h, k, l⟩ ?_)
       rintro ⟨Z, N, C, G⟩ H bs ⟨X, g, d, i, h, k, l⟩
       rcases Z with _ | Z
       · exact (Lz X).elim
       obtain ⟨bd, a, X⟩ := Bs X
       refine Cs (Xu 1 [(52, Bd (C < 3))] (Xk (Cn [(0, Vl n m p), (5, Vp A 0), (7, Vp o 0), (15, Vl n m p), (16, Vi ((m).length : Int)), (17, Vi t), (50, .agg #[Vi c.2.2.2.2.1, Vi c.2.2.2.2.2.1, Vi c.2.2.2.2.2.2.1]), (51, Vi C), (52, Bd (C < 3))] (fun H => ?_))))
       refine Cq (Ci _ R a (fun a => ?_) (fun a => ?_))
       · refine Ck (Kt (Cq (Cb (Cs ?_))))
         obtain ⟨F, a8, a⟩ := Bs a
         refine x_index (xv := .agg #[Vi c.2.2.2.2.1, Vi c.2.2.2.2.2.1, Vi c.2.2.2.2.2.2.1]) (yv := Vi C) (Vi F) R R R R (reads_aindex Tryz.underlying85 tcell3 (xs := ([c.2.2.2.2.1, c.2.2.2.2.2.1, c.2.2.2.2.2.2.1] : List Int)) R R a8) (Xu 1 [(9, Vi F)] (Xk (Cp (Xu 1 [(54, Vi F)] ?_))))
         have r := Gl a
         have a := Gr a
         have q := itoa_w Litoa (f := 27) R ⟨_, Tryz.func27, by kernel_rfl, R⟩ (hgl.ev g) F r.1 r.2
         refine Xv q R ?_
         rintro y bi ⟨rfl, ap⟩
         have k := k.step ap nn2
         obtain ⟨h, l, d, g⟩ := E4 (Cx.e d ap) h l d g
         refine x_binop (Vs (([32] : List UInt8) ++ (itoaL F))) (Vs ([32] : List UInt8)) (Vs (itoaL F)) R R R R (bin_sadd (Gl a)) ?_
         have a := Gr a
         have r := Gl a
         have a := Gr a
         have q := ws_w Lws Lwsx (f := 24) (T := 77) (e := 5) R R R ⟨_, Tryz.func24, by kernel_rfl, R⟩ k (([32] : List UInt8) ++ (itoaL F)) r
         refine Xv q R ?_
         rintro y bj ⟨rfl, aq, aH, az, a3⟩
         obtain ⟨h, l, d⟩ := E3 (Cx.u d 0 aq az) h l d
         have B := i.ux 0 g az
         have g := g.th aq i 0
         have i := B
         have k := a3
         refine Xe R (Kl (Kt (Cp (Xu 2 [(58, Vi (i64.wrap (C + 1))), (51, Vi (i64.wrap (C + 1)))] (Xe R ?_)))))
         obtain rfl := Sj a
         exact Kt ⟨(Z, (N ++ (([32] : List UInt8) ++ (itoaL F))), i64.wrap (C + 1), aH), ⟨R, R, R, R, R, R, R, R, T0⟩, ⟨X, g, d, i, h, k, l⟩, Ns _⟩
       refine Ce (Ke ?_)
       obtain rfl := Sj a
       have ag := Sj X
       subst ag
       have a := aN
       refine Ke (Ki ?_)
       exact Kt ⟨(N, G), ⟨R, R, R, R, R, R, T0⟩, a, g, d, i, h, k, l⟩
     refine Ck ?_
     obtain ⟨h, d⟩ := E2 (Cx.s d [1, 0, 2]) h d
     have i := i.px [1, 0]
     exact Kt ⟨((E ++ ((I ++ ([32] : List UInt8)) ++ c.2.1)), aF), ⟨R, R, R, R, R, R, T0⟩, a, g, d, i, h, k, l⟩
   rintro ⟨L, J⟩ H br ⟨a, g, d, i, h, k, l⟩
   refine Cq (Cs (Yg o 0 0 (Vi c.1) R R (Rf tfld79_0 _) tcell3 l nn R (Xu 1 [(61, .bool (c.1 == 2))] (Xk (Cn [(0, Vl n m p), (5, Vp A 0), (7, Vp o 0), (15, Vl n m p), (16, Vi ((m).length : Int)), (17, Vi t), (61, .bool (c.1 == 2))] (fun H => ?_))))))
   refine Ci _ R a (fun a => ?_) (fun a => ?_)
   · refine Cp (Yg o 0 7 (Vi c.2.2.2.2.2.2.2) R R (Rf tfld79_7 _) tcell3 l nn R ?_)
     have r := Gl a
     have a := Gr a
     have q := itoa_w Litoa (f := 27) R ⟨_, Tryz.func27, by kernel_rfl, R⟩ (hgl.ev g) c.2.2.2.2.2.2.2 r.1 r.2
     refine Xv q R ?_
     rintro y bk ⟨rfl, ar⟩
     have k := k.step ar nn2
     obtain ⟨h, d, g⟩ := E3 (Cx.e d ar) h d g
     refine x_binop (Vs (([32] : List UInt8) ++ (itoaL c.2.2.2.2.2.2.2))) (Vs ([32] : List UInt8)) (Vs (itoaL c.2.2.2.2.2.2.2)) R R R R (bin_sadd (Gl a)) ?_
     have a := Gr a
     have r := Gl a
     have a := Gr a
     have q := ws_w Lws Lwsx (f := 24) (T := 77) (e := 5) R R R ⟨_, Tryz.func24, by kernel_rfl, R⟩ k (([32] : List UInt8) ++ (itoaL c.2.2.2.2.2.2.2)) r
     refine Xv q R ?_
     rintro y bl ⟨rfl, au, bb, aA, a4⟩
     obtain ⟨h, d⟩ := E2 (Cx.u d 0 au aA) h d
     have B := i.ux 0 g aA
     have g := g.th au i 0
     have i := B
     have k := a4
     refine Xk (Cp ?_)
     have r := Gl a
     have a := Gr a
     have q := wb_w Lwb Lwbx (f := 28) (T := 77) (e := 5) R R R ⟨_, Tryz.func28, by kernel_rfl, R⟩ k 10 ⟨r.1, r.2.1⟩ r.2.2
     refine Xv q R ?_
     rintro y bm ⟨rfl, av, aI, aB, a5⟩
     obtain ⟨h, d⟩ := E2 (Cx.u d 0 av aB) h d
     have B := i.ux 0 g aB
     have g := g.th av i 0
     have i := B
     have k := a5
     refine Xe R (Kl (Kt (Cp (Xu 2 [(68, Vi (i64.wrap (t + 1))), (17, Vi (i64.wrap (t + 1)))] (Xe R ?_)))))
     obtain rfl := Sj a
     obtain ⟨h, d⟩ := E2 (Cx.s d [0, 2]) h d
     have i := i.px [0]
     exact Kt ⟨(Q, ((L ++ (([32] : List UInt8) ++ (itoaL c.2.2.2.2.2.2.2))) ++ [UInt8.ofNat (Int.toNat 10)]), i64.wrap (t + 1), aI), ⟨R, R, R, R, R, T0⟩, ⟨O, g, d, i, h, k⟩, Ns _⟩
   refine Ck (Kt (Cp ?_))
   have r := Gl a
   have a := Gr a
   have q := wb_w Lwb Lwbx (f := 28) (T := 77) (e := 5) R R R ⟨_, Tryz.func28, by kernel_rfl, R⟩ k 10 ⟨r.1, r.2.1⟩ r.2.2
   refine Xv q R ?_
   rintro y bn ⟨rfl, aw, aJ, aC, a6⟩
   obtain ⟨h, d⟩ := E2 (Cx.u d 0 aw aC) h d
   have B := i.ux 0 g aC
   have g := g.th aw i 0
   have i := B
   have k := a6
   refine Xe R (Kl (Kt (Cp (Xu 2 [(68, Vi (i64.wrap (t + 1))), (17, Vi (i64.wrap (t + 1)))] (Xe R ?_)))))
   obtain rfl := Sj a
   obtain ⟨h, d⟩ := E2 (Cx.s d [0, 2]) h d
   have i := i.px [0]
   exact Kt ⟨(Q, (L ++ [UInt8.ofNat (Int.toNat 10)]), i64.wrap (t + 1), aJ), ⟨R, R, R, R, R, T0⟩, ⟨O, g, d, i, h, k⟩, Ns _⟩
 refine Ce (Ke ?_)
 obtain rfl := Sj a
 have ag := Sj O
 subst ag
 have a := aO
 refine Ke (Ki (Kt (Cn [(5, Vp A 0)] (fun H => ?_))))
 refine Cs ?_
 have r := Gl a
 have a := Gr a
 have q := str_w Lstr Lstrx (f := 29) (T := 77) (e := 5) R R R ⟨_, Tryz.func29, by kernel_rfl, R⟩ k r
 refine Xv q R ?_
 rintro y bo ⟨rfl, aS⟩
 have g := g.th aS i 0
 refine Xu 2 [(2, Vs E), (3, Vi 0)] (Xk (Cr (Rr (Rv [Vs E, Vi 0] ⟨R, R, T0⟩ ?_))))
 obtain rfl := Sj a
 exact ⟨R, g⟩
def layout_words_L3 (f : (List (List UInt8)) × (List (List UInt8)) × Int × Int) : Option (Step ((List (List UInt8)) × (List (List UInt8)) × Int × Int) (List (List UInt8))) :=
match f with
| (a, c, d, b) =>
(if (decide (b < d)) = true then
((idx c b).bind fun e =>
(if (e != ([] : List UInt8)) = true then
(if a.length + ([e] : List (List UInt8)).length ≤ 4294967296 then
some (.next ((a ++ ([e] : List (List UInt8))), c, d, i64.wrap (b + 1)))
else none)
else
some (.next (a, c, d, i64.wrap (b + 1)))))
else
some (.done a))
def layout_words (a : List UInt8) : Option (List (List UInt8)) :=
(if a.length < 4294967281 ∧ 1 ≤ ([32] : List UInt8).length then
((loop layout_words_L3 (([] : List (List UInt8)), (splitL a ([32] : List UInt8)), (((splitL a ([32] : List UInt8))).length : Int), 0)).bind fun b => match b with
| c => some c)
else none)
theorem layout_words_w (x F p m) (hgl : GL Tryz.prog 1 p) (c : MS p [m]) (a : layout_words x = some F) : CallVC Tryz.prog 33 [Vs x] p fun Q s => ∃ y J, Q = Vl y F J ∧ Ev [] p s ∧ MS s [Bk y, m] ∧ FR p.heap.size [Bk y] ∧ OwnS eStr 9 s (fl [Bk y, m]) y J F := by
 refine Cw hmx Tryz.func33 R R R ?_
 have g := Ev.refl [] p
 have k := FR.nil p.heap.size
 refine Cs (Xu 1 [(2, Z0)] (Xk (Cs (Xu 1 [(3, Z0)] (Xk (Cq (Cs (Xu 1 [(6, Vs x)] ?_))))))))
 have B := Gl a
 have a := Gr a
 have Y := split_w Lsplit (f := 32) R ⟨_, Tryz.func32, by kernel_rfl, R⟩ (by kernel_rfl) R (hgl.ev g) (M := fl [m]) (fun aw aj => c.lt' aj) x ([32] : List UInt8) B.1 B.2
 refine Xv Y R ?_
 rintro Q an ⟨C, D, rfl, L, j⟩
 have c := c.ev L
 have g := g.ext L
 refine Xz tsl92 R (Xu 1 [(9, Vi 0)] (Xk (Cb ?_)))
 obtain ⟨j, c⟩ := E2 (Cx.n c) j c
 have k := k.pn
 have ad := OwnS.nil eStr 9 an (fl [Bk none, m])
 obtain ⟨S, E, U⟩ := Bs a
 obtain ⟨w, E⟩ := Lo E
 refine Cl (Lr hmx (σ := Nat × (List (List UInt8)) × (List (List UInt8)) × Int × Int × Option Addr × Nat) (fun A => match A with | (_, d, r, o, h, b, i) => [(3, Vl b d i), (7, Vl C r D), (8, Vi o), (9, Vi h)]) (fun A s => match A with | (am, d, r, o, h, b, i) => loopN layout_words_L3 am (d, r, o, h) = some S ∧ Ev [] p s ∧ (fun G => MS s G ∧ FR p.heap.size [Bk b] ∧ OwnS eStr 9 s (fl G) b i d ∧ SlR eStr s (fl G) C D r) [Bk b, m]) (fun A => A.1) (w, ([] : List (List UInt8)), (splitL x ([32] : List UInt8)), (((splitL x ([32] : List UInt8))).length : Int), 0, none, 0) ⟨R, R, R, R, T0⟩ ⟨E, g, c, k, ad, j⟩ ?_)
 rintro ⟨w, d, r, o, h, b, i⟩ H av ⟨v, g, c, k, t, j⟩
 rcases w with _ | w
 · exact (Lz v).elim
 obtain ⟨aq, a, v⟩ := Bs v
 refine Cs (Xu 1 [(10, Bd (h < o))] (Xk (Cn [(3, Vl b d i), (7, Vl C r D), (8, Vi o), (9, Vi h), (10, Bd (h < o))] (fun H => ?_))))
 refine Cq (Ci _ R a (fun a => ?_) (fun a => ?_))
 · refine Ck (Kt (Cq (Cb (Cs ?_))))
   obtain ⟨q, ak, a⟩ := Bs a
   refine Xq0 (j.el tsl92) tcell9 ak R (fun _ => R) (fun _ => Xu 1 [(5, Vs q)] (Xk (Cs (Xu 1 [(13, Vs q)] (x_binop (.bool (q != ([] : List UInt8))) (Vs q) (Vs ([] : List UInt8)) R R R R (bin_sne) (Xk (Ci _ R a (fun a => ?_) (fun a => ?_))))))))
   · refine Cp (Xu 2 [(15, Vl b d i), (16, Vs q)] (Xh #[Vs q] 9 R (fun ao ar ae X Z => ?_)))
     have z := Cx.e c Z
     obtain ⟨t, j, c, g⟩ := E4 z t j c g
     have ag := z.l (e := eStr) ae X 1 [q]
     have B := Gl a
     have a := Gr a
     obtain ⟨I, K, au, af, N, O, ap, ai⟩ := own_appendN tel92 92 t (Mf 0 R) ag B
     refine Xx R (Rn af) ?_
     have z := Cx.u c 0 N O
     obtain ⟨j, c⟩ := E2 z j c
     have ab := k.ux 0 g O
     have g := g.th N k 0
     have k := ab
     have t := ai _ z.st.new
     refine Xu 1 [(3, Vl I ((d ++ ([q] : List (List UInt8)))) K)] (Xe R (Kl (Kt (Cp (Xu 2 [(19, Vi (i64.wrap (h + 1))), (9, Vi (i64.wrap (h + 1)))] (Xe R ?_))))))
     obtain rfl := Sj a
     exact Kt ⟨(w, (d ++ ([q] : List (List UInt8))), r, o, i64.wrap (h + 1), I, K), ⟨R, R, R, R, T0⟩, ⟨v, g, c, k, t, j⟩, Ns _⟩
   refine Ck (Kl (Kt (Cp (Xu 2 [(19, Vi (i64.wrap (h + 1))), (9, Vi (i64.wrap (h + 1)))] (Xe R ?_)))))
   obtain rfl := Sj a
   exact Kt ⟨(w, d, r, o, i64.wrap (h + 1), b, i), ⟨R, R, R, R, T0⟩, ⟨v, g, c, k, t, j⟩, Ns _⟩
 refine Ce (Ke ?_)
 obtain rfl := Sj a
 have al := Sj v
 subst al
 have a := U
 refine Ke (Ki (Kt (Cn [(3, Vl b d i)] (fun H => ?_))))
 refine Cs (Xu 2 [(20, Vl b d i), (2, Vl b d i)] (Xk (Cr (Rz (Vl b d i) R ?_))))
 obtain rfl := Sj a
 have ac := c.pk [0, 1] [Bk b, m] R
 have ah := Pk (ls := [Bk b, m]) [0, 1] [Bk b, m] R
 have aa := k.pk [0] [Bk b] R
 exact ⟨b, i, R, g, ac, aa, t.sub ah⟩
def layout_kindOf_L1 (b : List UInt8) (c : Int) : Option (Step Int (Int ⊕ Unit)) :=
match c with
| a =>
(if (decide (a ≤ 4)) = true then
((layout_word a).bind fun d =>
(if (d == b) = true then
some (.done (.inl a))
else
some (.next (i64.wrap (a + 1)))))
else
some (.done (.inr ())))
def layout_kindOf (b : List UInt8) : Option (Int × Bool) :=
((loop (layout_kindOf_L1 b) 0).bind fun a => match a with
| (.inl c) => some (c, true)
| (.inr _) => some (0, false))
theorem layout_kindOf_w (c n e) (a : layout_kindOf c = some n) : CallVC Tryz.prog 61 [Vs c] e fun r j => r = .tuple #[Vi n.1, .bool n.2] ∧ Ev [] e j := by
 refine Cw hmx Tryz.func61 R R R ?_
 have d := Ev.refl [] e
 have g := MS.one e
 have l := FR.nil e.heap.size
 refine Cs (Xu 2 [(2, Vi 0), (3, .bool false)] (Xk (Cq (Cs (Xu 1 [(4, Vi 0)] (Xk (Cb ?_)))))))
 obtain ⟨t, k, p⟩ := Bs a
 obtain ⟨h, k⟩ := Lo k
 refine Cl (Lr hmx (σ := Nat × Int) (fun i => match i with | (_, b) => [(0, Vs c), (4, Vi b)]) (fun i j => match i with | (w, b) => loopN (layout_kindOf_L1 c) w b = some t ∧ Ev [] e j ∧ MS j [[]] ∧ FR e.heap.size []) (fun i => i.1) (h, 0) ⟨R, R, T0⟩ ⟨k, d, g, l⟩ ?_)
 rintro ⟨h, b⟩ o x ⟨f, d, g, l⟩
 rcases h with _ | h
 · exact (Lz f).elim
 obtain ⟨y, a, f⟩ := Bs f
 refine Cq (Cs (Xu 2 [(5, Vi b), (6, Bd (b ≤ 4))] (Xk (Cn [(0, Vs c), (4, Vi b), (6, Bd (b ≤ 4))] (fun o => ?_)))))
 refine Ci _ R a (fun a => ?_) (fun a => ?_)
 · refine Ck (Kt (Cq (Cb (Cs (Xu 1 [(9, Vi b)] ?_)))))
   obtain ⟨s, v, a⟩ := Bs a
   have u := layout_word_w b _ x v
   refine Xv u R ?_
   rintro r z ⟨rfl, q⟩
   have g := g.ev q
   have d := d.ext q
   refine Xu 1 [(11, Vs c)] (x_binop (.bool (s == c)) (Vs s) (Vs c) R R R R (bin_seq) (Xk (Ci _ R a (fun a => ?_) (fun a => ?_))))
   · refine Cs (Xu 3 [(13, Vi b), (2, Vi b), (3, .bool true)] (Xk (Cr (Kb (Kr ?_)))))
     obtain rfl := Sj a
     have m := Sj f
     subst m
     have a := p
     refine Kr (Kb (Kr (Rr (Rv [Vi b, .bool true] ⟨R, R, T0⟩ ?_))))
     obtain rfl := Sj a
     exact ⟨R, d⟩
   refine Ck (Kl (Kt (Cp (Xu 3 [(7, Vi b), (8, Vi (i64.wrap (b + 1))), (4, Vi (i64.wrap (b + 1)))] (Xe R ?_)))))
   obtain rfl := Sj a
   exact Kt ⟨(h, i64.wrap (b + 1)), ⟨R, R, T0⟩, ⟨f, d, g, l⟩, Ns _⟩
 refine Ce (Ke ?_)
 obtain rfl := Sj a
 have m := Sj f
 subst m
 have a := p
 refine Ke (Ki (Kt (c_norm [] T0 (fun o => ?_))))
 refine Cs (Xu 2 [(2, Vi 0), (3, .bool false)] (Xk (Cr (Rr (Rv [Vi 0, .bool false] ⟨R, R, T0⟩ ?_)))))
 obtain rfl := Sj a
 exact ⟨R, d⟩
def layout_number_J8 (a : List UInt8) (b : (List UInt8)) : Option (Int × Bool) :=
(if (decide ((b.length : Int) > 10)) = true then
some (1000000001, true)
else
((atoiO a).bind fun c =>
some (c, true)))
def layout_number_L4 (b : (List UInt8)) (c : Int) : Option (Step Int (Unit ⊕ Unit)) :=
match c with
| a =>
(if (decide (a < (b.length : Int))) = true then
((sAt b a).bind fun d =>
(if (decide (d < 48)) = true then
some (.done (.inl ()))
else
((sAt b a).bind fun e =>
(if (decide (e > 57)) = true then
some (.done (.inl ()))
else
some (.next (i64.wrap (a + 1)))))))
else
some (.done (.inr ())))
def layout_number (b : List UInt8) : Option (Int × Bool) :=
((strings_TrimPrefix b ([45] : List UInt8)).bind fun a =>
((loop (layout_number_L4 a) 0).bind fun c => match c with
| (.inl _) => some (0, false)
| (.inr _) => (if (a == ([] : List UInt8)) = true then
some (0, false)
else
((sAt a 0).bind fun d =>
(if (d == 48) = true then
(if (b != ([48] : List UInt8)) = true then
some (0, false)
else
layout_number_J8 b a)
else
layout_number_J8 b a)))))
theorem layout_number_w (c q g) (a : layout_number c = some q) : CallVC Tryz.prog 62 [Vs c] g fun u k => u = .tuple #[Vi q.1, .bool q.2] ∧ Ev [] g k := by
 refine Cw hmx Tryz.func62 R R R ?_
 have d := Ev.refl [] g
 have i := MS.one g
 have m := FR.nil g.heap.size
 refine Cs (Xu 2 [(2, Vi 0), (3, .bool false)] (Xk (Cs (Xu 1 [(6, Vs c)] ?_))))
 obtain ⟨b, E, a⟩ := Bs a
 have s := strings_TrimPrefix_w c ([45] : List UInt8) _ g E
 refine Xv s R ?_
 rintro u O ⟨rfl, z⟩
 have i := i.ev z
 have d := d.ext z
 refine Xu 1 [(4, Vs b)] (Xk (Cq (Cs (Xu 1 [(5, Vi 0)] (Xk (Cb ?_))))))
 obtain ⟨A, t, r⟩ := Bs a
 obtain ⟨o, t⟩ := Lo t
 refine Cl (Lr hmx (σ := Nat × Int) (fun h => match h with | (_, e) => [(0, Vs c), (4, Vs b), (5, Vi e)]) (fun h k => match h with | (J, e) => loopN (layout_number_L4 b) J e = some A ∧ Ev [] g k ∧ MS k [[]] ∧ FR g.heap.size []) (fun h => h.1) (o, 0) ⟨R, R, R, T0⟩ ⟨t, d, i, m⟩ ?_)
 rintro ⟨o, e⟩ p Q ⟨j, d, i, m⟩
 rcases o with _ | o
 · exact (Lz j).elim
 obtain ⟨L, a, j⟩ := Bs j
 refine Cq (Cs (Xu 2 [(8, Vi e), (9, Vs b)] (Xn (vs := [Vs b]) (Vi (b.length : Int)) R R R (reads_slen tstr9 _) (Xu 1 [(11, Bd (e < (b.length : Int)))] (Xk (Cn [(0, Vs c), (4, Vs b), (5, Vi e), (11, Bd (e < (b.length : Int)))] (fun p => ?_)))))))
 refine Ci _ R a (fun a => ?_) (fun a => ?_)
 · refine Ck (Kt (Cq (Cb (Cs (Xu 2 [(14, Vs b), (15, Vi e)] ?_)))))
   obtain ⟨v, G, a⟩ := Bs a
   refine x_index (xv := Vs b) (yv := Vi e) (.int .u8 v) R R R R (reads_sindex tstr9 G) (Xu 2 [(17, Bd (v < 48)), (18, Bd (v < 48))] (Xw 18 _ R a (fun a => ?_) (fun a => ?_)))
   · refine Xu 5 [(19, U0), (20, U0), (21, U0), (22, U0), (23, .bool true)] (Xk (c_true R (Cs (Xu 2 [(2, Vi 0), (3, .bool false)] (Xk (Cr (Kb (Kr ?_))))))))
     obtain rfl := Sj a
     have n := Sj j
     subst n
     have a := r
     refine Kr (Kb (Kr (Rr (Rv [Vi 0, .bool false] ⟨R, R, T0⟩ ?_))))
     obtain rfl := Sj a
     exact ⟨R, d⟩
   refine Xu 2 [(19, Vs b), (20, Vi e)] ?_
   obtain ⟨x, H, a⟩ := Bs a
   refine x_index (xv := Vs b) (yv := Vi e) (.int .u8 x) R R R R (reads_sindex tstr9 H) (Xu 2 [(22, Bd (x > 57)), (23, Bd (x > 57))] (Xk (Ci _ R a (fun a => ?_) (fun a => ?_))))
   · refine Cs (Xu 2 [(2, Vi 0), (3, .bool false)] (Xk (Cr (Kb (Kr ?_)))))
     obtain rfl := Sj a
     have n := Sj j
     subst n
     have a := r
     refine Kr (Kb (Kr (Rr (Rv [Vi 0, .bool false] ⟨R, R, T0⟩ ?_))))
     obtain rfl := Sj a
     exact ⟨R, d⟩
   refine Ck (Kl (Kt (Cp (Xu 3 [(12, Vi e), (13, Vi (i64.wrap (e + 1))), (5, Vi (i64.wrap (e + 1)))] (Xe R ?_)))))
   obtain rfl := Sj a
   exact Kt ⟨(o, i64.wrap (e + 1)), ⟨R, R, R, T0⟩, ⟨j, d, i, m⟩, Ns _⟩
 refine Ce (Ke ?_)
 obtain rfl := Sj a
 have n := Sj j
 subst n
 have a := r
 refine Ke (Ki (Kt (Cn [(0, Vs c), (4, Vs b)] (fun p => ?_))))
 refine c_join (σ := Unit) (fun h => match h with | _ => [(0, Vs c), (4, Vs b)]) (fun h k => match h with | _ => layout_number_J8 c b = some q ∧ Ev [] g k ∧ MS k [[]] ∧ FR g.heap.size []) ?_ ?_
 · refine Cs (Xu 1 [(24, Vs b)] (x_binop (.bool (b == ([] : List UInt8))) (Vs b) (Vs ([] : List UInt8)) R R R R (bin_seq) (Xu 1 [(26, .bool (b == ([] : List UInt8)))] (Xw 26 _ R a (fun a => ?_) (fun a => ?_)))))
   · refine Xu 8 [(27, U0), (28, U0), (29, U0), (30, U0), (31, U0), (32, U0), (33, U0), (34, .bool true)] (Xk (c_true R (Cs (Xu 2 [(2, Vi 0), (3, .bool false)] (Xk (Cr (Kr (Rr (Rv [Vi 0, .bool false] ⟨R, R, T0⟩ ?_)))))))))
     obtain rfl := Sj a
     exact ⟨R, d⟩
   refine Xu 1 [(27, Vs b)] ?_
   obtain ⟨y, I, a⟩ := Bs a
   refine x_index (xv := Vs b) (yv := Vi 0) (.int .u8 y) R R R R (reads_sindex tstr9 I) (Xu 2 [(29, .bool (y == 48)), (30, .bool (y == 48))] (Xw 30 _ R a (fun a => ?_) (fun a => ?_)))
   · refine Xu 1 [(31, Vs c)] (x_binop (.bool (c != ([48] : List UInt8))) (Vs c) (Vs ([48] : List UInt8)) R R R R (bin_sne) (Xu 2 [(33, .bool (c != ([48] : List UInt8))), (34, .bool (c != ([48] : List UInt8)))] (Xk (Ci _ R a (fun a => ?_) (fun a => ?_)))))
     · refine Cs (Xu 2 [(2, Vi 0), (3, .bool false)] (Xk (Cr (Kr (Rr (Rv [Vi 0, .bool false] ⟨R, R, T0⟩ ?_))))))
       obtain rfl := Sj a
       exact ⟨R, d⟩
     refine Ck ?_
     exact Kt ⟨(), ⟨R, R, T0⟩, a, d, i, m⟩
   refine Xu 4 [(31, U0), (32, U0), (33, .bool false), (34, .bool false)] (Xk (c_false R (Ck ?_)))
   exact Kt ⟨(), ⟨R, R, T0⟩, a, d, i, m⟩
 rintro _ p K ⟨a, d, i, m⟩
 refine Cq (Cs (Xu 1 [(35, Vs b)] (Xn (vs := [Vs b]) (Vi (b.length : Int)) R R R (reads_slen tstr9 _) (Xu 1 [(37, Bd ((b.length : Int) > 10))] (Xk (Cn [(0, Vs c), (37, Bd ((b.length : Int) > 10))] (fun p => ?_)))))))
 refine Ci _ R a (fun a => ?_) (fun a => ?_)
 · refine Cs (Xu 2 [(2, Vi 1000000001), (3, .bool true)] (Xk (Cr (Kr (Rr (Rv [Vi 1000000001, .bool true] ⟨R, R, T0⟩ ?_))))))
   obtain rfl := Sj a
   exact ⟨R, d⟩
 refine Ck (Kt (Cs (Xu 1 [(39, Vs c)] ?_)))
 obtain ⟨l, F, a⟩ := Bs a
 obtain ⟨C, D⟩ := atoiO_some F
 have s := atoi_w Latoi (f := 88) R ⟨_, Tryz.func88, by kernel_rfl, R⟩ (w := K) c C l D
 refine Xv s R ?_
 rintro u N ⟨rfl, B⟩
 have d := d.ext B
 refine Xu 4 [(38, .tuple #[Vi l, .nilIface]), (41, Vi l), (42, .nilIface), (2, Vi l)] (Xk (Cs (Xu 3 [(43, Vi l), (2, Vi l), (3, .bool true)] (Xk (Cr (Rr (Rv [Vi l, .bool true] ⟨R, R, T0⟩ ?_)))))))
 obtain rfl := Sj a
 exact ⟨R, d⟩
def layout_parentOf_L2 (d : List UInt8) (c : List ((List UInt8) × Int)) (e : Int) : Option (Step Int ((Int × Int) ⊕ Unit)) :=
match e with
| a =>
(if (decide (a ≤ 2)) = true then
((layout_suffix a).bind fun f =>
((strings_CutSuffix d f).bind fun b =>
(if b.2 = true then
(if ((mget c b.1).isSome) = true then
some (.done (.inl (((mget c b.1).getD 0), a)))
else
some (.next (i64.wrap (a + 1))))
else
some (.next (i64.wrap (a + 1))))))
else
some (.done (.inr ())))
def layout_parentOf (c : List UInt8) (d : List ((List UInt8) × Int)) : Option (Int × Int × Bool) :=
((loop (layout_parentOf_L2 c d) 0).bind fun a => match a with
| (.inl (b, e)) => some (b, e, true)
| (.inr _) => some (0, 0, false))
theorem layout_parentOf_w (k j d s i q) (g : MS i [q]) (h : MapR Vs eI i (fl [q]) j d) (a : layout_parentOf k d = some s) : CallVC Tryz.prog 64 [Vs k, .map (some j)] i fun x o => x = .tuple #[Vi s.1, Vi s.2.1, .bool s.2.2] ∧ Ev [] i o := by
 refine Cw hmx Tryz.func64 R R R ?_
 have f := Ev.refl [] i
 have r := FR.nil i.heap.size
 refine Cs (Xu 3 [(4, Vi 0), (5, Vi 0), (6, .bool false)] (Xk (Cq (Cs (Xu 1 [(7, Vi 0)] (Xk (Cb ?_)))))))
 obtain ⟨z, u, y⟩ := Bs a
 obtain ⟨m, u⟩ := Lo u
 refine Cl (Lr hmx (σ := Nat × Int) (fun n => match n with | (_, c) => [(0, Vs k), (1, .map (some j)), (7, Vi c)]) (fun n o => match n with | (E, c) => loopN (layout_parentOf_L2 k d) E c = some z ∧ Ev [] i o ∧ MS o [q] ∧ FR i.heap.size [] ∧ MapR Vs eI o (fl [q]) j d) (fun n => n.1) (m, 0) ⟨R, R, R, T0⟩ ⟨u, f, g, r, h⟩ ?_)
 rintro ⟨m, c⟩ p G ⟨l, f, g, r, h⟩
 rcases m with _ | m
 · exact (Lz l).elim
 obtain ⟨J, a, l⟩ := Bs l
 refine Cq (Cs (Xu 2 [(12, Vi c), (13, Bd (c ≤ 2))] (Xk (Cn [(0, Vs k), (1, .map (some j)), (7, Vi c), (13, Bd (c ≤ 2))] (fun p => ?_)))))
 refine Ci _ R a (fun a => ?_) (fun a => ?_)
 · refine Ck (Kt (Cq (Cb (Cs (Xu 2 [(17, Vs k), (18, Vi c)] ?_)))))
   obtain ⟨H, v, a⟩ := Bs a
   have t := layout_suffix_w c _ G v
   refine Xv t R ?_
   rintro x F ⟨rfl, B⟩
   obtain ⟨h, g, f⟩ := E3 (Cx.e g B) h g f
   obtain ⟨b, v, a⟩ := Bs a
   have t := strings_CutSuffix_w k H _ F v
   refine Xv t R ?_
   rintro x K ⟨rfl, C⟩
   obtain ⟨h, g, f⟩ := E3 (Cx.e g C) h g f
   refine Xu 5 [(16, .tuple #[Vs b.1, .bool b.2]), (21, Vs b.1), (22, .bool b.2), (8, Vs b.1), (9, .bool b.2)] (Xk (Cs (Xu 1 [(23, .bool b.2)] (Xk (Ci b.2 R a (fun a => ?_) (fun a => ?_))))))
   · refine Cs (Xu 2 [(25, .map (some j)), (26, Vs b.1)] ?_)
     obtain ⟨I, A, D⟩ := MapR.getok (e := eI) (Mo := []) tmap91 tkey9 b.1 0 (Vi 0) (fun i => by kernel_rfl) R h (fun _ a => by cases a)
     obtain rfl := A
     refine x_lookup (xv := .map (some j)) (yv := Vs b.1) (.tuple #[Vi ((mget d b.1).getD 0), .bool ((mget d b.1).isSome)]) R R R R D (Xu 5 [(24, .tuple #[Vi ((mget d b.1).getD 0), .bool ((mget d b.1).isSome)]), (28, Vi ((mget d b.1).getD 0)), (29, .bool ((mget d b.1).isSome)), (10, Vi ((mget d b.1).getD 0)), (11, .bool ((mget d b.1).isSome))] (Xk (Cs (Xu 1 [(30, .bool ((mget d b.1).isSome))] (Xk (Ci _ R a (fun a => ?_) (fun a => ?_)))))))
     · refine Cs (Xu 5 [(31, Vi ((mget d b.1).getD 0)), (32, Vi c), (4, Vi ((mget d b.1).getD 0)), (5, Vi c), (6, .bool true)] (Xk (Cn [(4, Vi ((mget d b.1).getD 0)), (5, Vi c), (6, .bool true)] (fun p => ?_))))
       refine Cr (Kb (Kr ?_))
       obtain rfl := Sj a
       have w := Sj l
       subst w
       have a := y
       refine Kr (Kb (Kr (Rr (Rv [Vi ((mget d b.1).getD 0), Vi c, .bool true] ⟨R, R, R, T0⟩ ?_))))
       obtain rfl := Sj a
       exact ⟨R, f⟩
     refine Ck (Kl (Kt (Cn [(0, Vs k), (1, .map (some j)), (7, Vi c)] (fun p => ?_))))
     refine Cp (Xu 3 [(14, Vi c), (15, Vi (i64.wrap (c + 1))), (7, Vi (i64.wrap (c + 1)))] (Xe R ?_))
     obtain rfl := Sj a
     exact Kt ⟨(m, i64.wrap (c + 1)), ⟨R, R, R, T0⟩, ⟨l, f, g, r, h⟩, Ns _⟩
   refine Ck (Kl (Kt (Cp (Xu 3 [(14, Vi c), (15, Vi (i64.wrap (c + 1))), (7, Vi (i64.wrap (c + 1)))] (Xe R ?_)))))
   obtain rfl := Sj a
   exact Kt ⟨(m, i64.wrap (c + 1)), ⟨R, R, R, T0⟩, ⟨l, f, g, r, h⟩, Ns _⟩
 refine Ce (Ke ?_)
 obtain rfl := Sj a
 have w := Sj l
 subst w
 have a := y
 refine Ke (Ki (Kt (c_norm [] T0 (fun p => ?_))))
 refine Cs (Xu 3 [(4, Vi 0), (5, Vi 0), (6, .bool false)] (Xk (Cr (Rr (Rv [Vi 0, Vi 0, .bool false] ⟨R, R, R, T0⟩ ?_)))))
 obtain rfl := Sj a
 exact ⟨R, f⟩
def layout_element_L24 (h : List (List UInt8)) (c : Int) (j : Int × Int × Int × Int × Bool × Int) : Option (Step (Int × Int × Int × Int × Bool × Int) ((List UInt8) ⊕ (Int × Int × Int × Int × Bool))) :=
match j with
| (d, e, f, g, i, a) =>
(if (decide (a < ((((h.drop (Int.toNat (if c < 3 then c else 3))).take (Int.toNat (h.length : Int) - Int.toNat (if c < 3 then c else 3)))).length : Int))) = true then
((idx ((h.drop (Int.toNat (if c < 3 then c else 3))).take (Int.toNat (h.length : Int) - Int.toNat (if c < 3 then c else 3))) a).bind fun k =>
((layout_number k).bind fun b =>
(if (!b.2) = true then
some (.done (.inl ([] : List UInt8)))
else
(if i = true then
(if (0 : Int) ≤ a ∧ (a : Int) < (4 : Nat) then
some (.next ((if a = 0 then b.1 else d), (if a = 1 then b.1 else e), (if a = 2 then b.1 else f), (if a = 3 then b.1 else g), true, i64.wrap (a + 1)))
else none)
else
(if (decide (b.1 < (-1000000000))) = true then
(if (0 : Int) ≤ a ∧ (a : Int) < (4 : Nat) then
some (.next ((if a = 0 then b.1 else d), (if a = 1 then b.1 else e), (if a = 2 then b.1 else f), (if a = 3 then b.1 else g), true, i64.wrap (a + 1)))
else none)
else
(if (0 : Int) ≤ a ∧ (a : Int) < (4 : Nat) then
some (.next ((if a = 0 then b.1 else d), (if a = 1 then b.1 else e), (if a = 2 then b.1 else f), (if a = 3 then b.1 else g), decide (b.1 > 1000000000), i64.wrap (a + 1)))
else none))))))
else
some (.done (.inr (d, e, f, g, i))))
def layout_element_J11 (a : List (List UInt8)) (m : List ((List UInt8) × Int)) (e : Int × Bool) (p : List UInt8) (b : Int) : Option ((Int × (List UInt8) × Int × Int × Int × Int × Int × Int) × Int) :=
(if (((a).length : Int) != b) = true then
some ((0, ([] : List UInt8), 0, 0, 0, 0, 0, 0), 6)
else
((idx a 1).bind fun c =>
(if 0 ≤ (if b < 3 then b else 3) ∧ (if b < 3 then b else 3) ≤ (a.length : Int) ∧ (a.length : Int) ≤ (a.length : Int) then
((loop (layout_element_L24 a b) (0, 0, 0, 0, false, 0)).bind fun f => match f with
| (.inl k) => some ((0, k, 0, 0, 0, 0, 0, 0), 6)
| (.inr (g, h, i, j, l)) => (if l = true then
some ((0, ([] : List UInt8), 0, 0, 0, 0, 0, 0), 2)
else
((layout_name c).bind fun n =>
(if (!n) = true then
some ((0, ([] : List UInt8), 0, 0, 0, 0, 0, 0), 7)
else
(if (e.1 == 0) = true then
some ((e.1, c, (-1), 0, 0, 0, 0, 0), 0)
else
((idx a 2).bind fun o =>
((layout_parentOf o m).bind fun d =>
(if (!d.2.2) = true then
some ((0, ([] : List UInt8), 0, 0, 0, 0, 0, 0), 7)
else
some ((e.1, c, d.1, d.2.1, g, h, i, j), 0)))))))))
else none)))
def layout_element (b : List (List UInt8)) (c : List ((List UInt8) × Int)) : Option ((Int × (List UInt8) × Int × Int × Int × Int × Int × Int) × Int) :=
((idx b 0).bind fun d =>
((layout_kindOf d).bind fun a =>
(if (!a.2) = true then
some ((0, ([] : List UInt8), 0, 0, 0, 0, 0, 0), 6)
else
(if (a.1 == 0) = true then
layout_element_J11 b c a ([] : List UInt8) 2
else
(if (a.1 == 2) = true then
layout_element_J11 b c a ([] : List UInt8) 7
else
layout_element_J11 b c a ([] : List UInt8) 6)))))
theorem layout_element_w (v w h A Z H I Y) (f : MS I [Y]) (o : SlR eStr I (fl [Y]) v w h) (q : MapR Vs eI I (fl [Y]) A Z) (a : layout_element h Z = some H) : CallVC Tryz.prog 34 [Vl v h w, .map (some A)] I fun ab z => ab = .tuple #[.agg #[Vi H.1.1, Vs H.1.2.1, Vi H.1.2.2.1, Vi H.1.2.2.2.1, Vi H.1.2.2.2.2.1, Vi H.1.2.2.2.2.2.1, Vi H.1.2.2.2.2.2.2.1, Vi H.1.2.2.2.2.2.2.2], Vi H.2] ∧ Ev [] I z := by
 refine Cw hmx Tryz.func34 R R R ?_
 have d := Ev.refl [] I
 have n := FR.nil I.heap.size
 refine Cs (Xj #[Vi 0, Vs ([] : List UInt8), Vi 0, Vi 0, Vi 0, Vi 0, Vi 0, Vi 0] R (fun y bH ay g a4 => ?_))
 have n := n.box d.size ay
 obtain ⟨o, q, f, d⟩ := E4 (Cx.b f a4 ay g) o q f d
 refine Xu 1 [(5, Vi 0)] (Xk (Cs (Xu 1 [(19, Vl v h w)] ?_)))
 obtain ⟨bQ, bE, a⟩ := Bs a
 refine Xq0 (o.el tsl92) tcell9 bE R (fun _ => R) (fun _ => ?_)
 obtain ⟨m, U, a⟩ := Bs a
 have S := layout_kindOf_w bQ _ bH U
 refine Xv S R ?_
 rintro ab cd ⟨rfl, bd⟩
 obtain ⟨o, q, g, f, d⟩ := E5 (Cx.e f bd) o q g f d
 refine Xu 5 [(18, .tuple #[Vi m.1, .bool m.2]), (23, Vi m.1), (24, .bool m.2), (6, Vi m.1), (7, .bool m.2)] (Xk (Cq (Cs (Xu 2 [(25, .bool m.2), (26, .bool (!m.2))] (Xk (Ci _ R a (fun a => ?_) (fun a => ?_)))))))
 · refine Cs (Xg (.agg #[Vi 0, Vs ([] : List UInt8), Vi 0, Vi 0, Vi 0, Vi 0, Vi 0, Vi 0]) R ?_)
   obtain ⟨bU, bg, aB, aZ⟩ := Sa [Vi 0, Vs ([] : List UInt8), Vi 0, Vi 0, Vi 0, Vi 0, Vi 0, Vi 0] tagg79 g R R R
   refine Xp bg R ?_
   have d := d.th aZ n 0
   have g := aB
   refine Xu 1 [(5, Vi 6)] (Xk (Cr (Kr (Rr (Rv [.agg #[Vi 0, Vs ([] : List UInt8), Vi 0, Vi 0, Vi 0, Vi 0, Vi 0, Vi 0], Vi 6] ⟨⟨_, R, Lv (Ra (Mo := []) 0 [Vi 0, Vs ([] : List UInt8), Vi 0, Vi 0, Vi 0, Vi 0, Vi 0, Vi 0] tagg79 g nn R)⟩, R, T0⟩ ?_)))))
   obtain rfl := Sj a
   exact ⟨R, d⟩
 refine Ck (Kt (Cs (Xu 1 [(8, Vi 6)] (Xk (c_join (σ := (List UInt8) × Int) (fun J => match J with | (aa, c) => [(0, Vl v h w), (1, .map (some A)), (4, Vp y 0), (6, Vi m.1), (8, Vi c)]) (fun J z => match J with | (aa, c) => layout_element_J11 h Z m aa c = some H ∧ Ev [] I z ∧ (fun Q => MS z Q ∧ FR I.heap.size [[y]] ∧ SlR eStr z (fl Q) v w h ∧ MapR Vs eI z (fl Q) A Z ∧ z.heap[y]? = some (.cells #[Vi 0, Vs aa, Vi 0, Vi 0, Vi 0, Vi 0, Vi 0, Vi 0] 79 (0, 0))) [[y], Y]) ?_ ?_)))))
 · refine Cs (Xu 1 [(28, Vi m.1)] (Xk (Cb (Cs (Xu 2 [(30, .bool (m.1 == 0)), (29, .bool (m.1 == 0))] (Xk (Ci _ R a (fun a => ?_) (fun a => ?_))))))))
   · refine Cp (Xu 1 [(8, Vi 2)] (Xe R (Kl ?_)))
     exact Kt ⟨(([] : List UInt8), 2), ⟨R, R, R, R, R, T0⟩, a, d, f, n, o, q, g⟩
   refine Cs (Xu 2 [(32, .bool (m.1 == 2)), (31, .bool (m.1 == 2))] (Xk (Ci _ R a (fun a => ?_) (fun a => ?_))))
   · refine Cp (Xu 1 [(8, Vi 7)] (Xe R (Kl ?_)))
     exact Kt ⟨(([] : List UInt8), 7), ⟨R, R, R, R, R, T0⟩, a, d, f, n, o, q, g⟩
   refine Ck (Kl ?_)
   exact Kt ⟨(([] : List UInt8), 6), ⟨R, R, R, R, R, T0⟩, a, d, f, n, o, q, g⟩
 rintro ⟨aa, c⟩ K ce ⟨a, d, f, n, o, q, g⟩
 refine Cq (Cs (Xu 1 [(33, Vl v h w)] (Xz tsl92 R (Xu 2 [(35, Vi c), (36, .bool (((h).length : Int) != c))] (Xk (Cn [(0, Vl v h w), (1, .map (some A)), (4, Vp y 0), (6, Vi m.1), (8, Vi c), (36, .bool (((h).length : Int) != c))] (fun K => ?_)))))))
 refine Ci _ R a (fun a => ?_) (fun a => ?_)
 · refine Cs (Xg (.agg #[Vi 0, Vs ([] : List UInt8), Vi 0, Vi 0, Vi 0, Vi 0, Vi 0, Vi 0]) R ?_)
   obtain ⟨bX, bh, aC, a0⟩ := Sa [Vi 0, Vs ([] : List UInt8), Vi 0, Vi 0, Vi 0, Vi 0, Vi 0, Vi 0] tagg79 g R R R
   refine Xp bh R ?_
   have d := d.th a0 n 0
   have g := aC
   refine Xu 1 [(5, Vi 6)] (Xk (Cr (Kr (Rr (Rv [.agg #[Vi 0, Vs ([] : List UInt8), Vi 0, Vi 0, Vi 0, Vi 0, Vi 0, Vi 0], Vi 6] ⟨⟨_, R, Lv (Ra (Mo := []) 0 [Vi 0, Vs ([] : List UInt8), Vi 0, Vi 0, Vi 0, Vi 0, Vi 0, Vi 0] tagg79 g nn R)⟩, R, T0⟩ ?_)))))
   obtain rfl := Sj a
   exact ⟨R, d⟩
 refine Ck (Kt (Cs (Xu 2 [(38, Vi m.1), (39, Vl v h w)] ?_)))
 obtain ⟨F, bB, a⟩ := Bs a
 refine Xq0 (o.el tsl92) tcell9 bB R (fun _ => R) (fun _ => Xg (.agg #[Vi m.1, Vs F, Vi (-1), Vi 0, Vi 0, Vi 0, Vi 0, Vi 0]) R (Xj #[Vi 0, Vs ([] : List UInt8), Vi 0, Vi 0, Vi 0, Vi 0, Vi 0, Vi 0] R (fun u bY aw k a1 => ?_)))
 have n := n.box d.size aw
 obtain ⟨o, q, g, f, d⟩ := E5 (Cx.b f a1 aw k) o q g f d
 obtain ⟨bZ, bi, aD, am⟩ := Sa [Vi m.1, Vs F, Vi (-1), Vi 0, Vi 0, Vi 0, Vi 0, Vi 0] tagg79 k R R R
 refine Xp bi R ?_
 obtain ⟨o, q, g, f⟩ := E4 (Cx.j f 0 am) o q g f
 have d := d.th am n 0
 have k := aD
 refine Xk (Cs (Xj #[Vi 0, Vi 0, Vi 0, Vi 0] R (fun p bG ax r a2 => ?_)))
 have n := n.box d.size ax
 obtain ⟨o, q, g, k, f, d⟩ := E6 (Cx.b f a2 ax r) o q g k f d
 refine Xk (Cs (Xu 1 [(11, .bool false)] (Xk (Cq (Cs (Xu 2 [(43, Vl v h w), (44, Vi c)] (x_min (vs := [Vi 3, Vi c]) (Vi (if c < 3 then c else 3)) R R R (fun _ _ => R) ?_)))))))
 have be := Gl a
 have a := Gr a
 obtain ⟨L, N, bj, x⟩ := SlR.sliced (P := Tryz.prog) (Mo := []) tsl92 o (some (if c < 3 then c else 3)) none be
 replace x : SlR eStr bG (fl [[p], [u], [y], Y]) L N ((h.drop (Int.toNat (if c < 3 then c else 3))).take (Int.toNat (h.length : Int) - Int.toNat (if c < 3 then c else 3))) := x
 refine x_slice (xv := Vl v h w) (lv := (some (Vi (if c < 3 then c else 3)))) (hv := none) (mv := none) (Vl L (((h.drop (Int.toNat (if c < 3 then c else 3))).take (Int.toNat (h.length : Int) - Int.toNat (if c < 3 then c else 3)))) N) R R R R R R bj (Xz tsl92 R (Xu 1 [(48, Vi 0)] (Xk (Cb ?_))))
 obtain ⟨o, q, x, f⟩ := E4 (Cx.s f [2, 1, 0, 3]) o q x f
 have n := n.px [2, 1, 0]
 obtain ⟨aA, ai, al⟩ := Bs a
 obtain ⟨X, ai⟩ := Lo ai
 refine Cl (Lr hmx (σ := Nat × Int × Int × Int × Int × Bool × Int) (fun J => match J with | (_, B, C, D, E, G, i) => [(0, Vl v h w), (1, .map (some A)), (4, Vp y 0), (6, Vi m.1), (9, Vp u 0), (10, Vp p 0), (11, .bool G), (46, Vl L (((h.drop (Int.toNat (if c < 3 then c else 3))).take (Int.toNat (h.length : Int) - Int.toNat (if c < 3 then c else 3)))) N), (47, Vi ((((h.drop (Int.toNat (if c < 3 then c else 3))).take (Int.toNat (h.length : Int) - Int.toNat (if c < 3 then c else 3)))).length : Int)), (48, Vi i)]) (fun J z => match J with | (bF, B, C, D, E, G, i) => loopN (layout_element_L24 h c) bF (B, C, D, E, G, i) = some aA ∧ Ev [] I z ∧ (fun Q => MS z Q ∧ FR I.heap.size [[y], [u], [p]] ∧ SlR eStr z (fl Q) v w h ∧ MapR Vs eI z (fl Q) A Z ∧ z.heap[y]? = some (.cells #[Vi 0, Vs aa, Vi 0, Vi 0, Vi 0, Vi 0, Vi 0, Vi 0] 79 (0, 0)) ∧ z.heap[u]? = some (.cells #[Vi m.1, Vs F, Vi (-1), Vi 0, Vi 0, Vi 0, Vi 0, Vi 0] 79 (0, 0)) ∧ z.heap[p]? = some (.cells #[Vi B, Vi C, Vi D, Vi E] 150 (0, 0)) ∧ SlR eStr z (fl Q) L N ((h.drop (Int.toNat (if c < 3 then c else 3))).take (Int.toNat (h.length : Int) - Int.toNat (if c < 3 then c else 3)))) [[y], [u], [p], Y]) (fun J => J.1) (X, 0, 0, 0, 0, false, 0) ⟨R, R, R, R, R, R, R, R, R, R, T0⟩ ⟨ai, d, f, n, o, q, g, k, r, x⟩ ?_)
 rintro ⟨X, B, C, D, E, G, i⟩ K az ⟨O, d, f, n, o, q, g, k, r, x⟩
 rcases X with _ | X
 · exact (Lz O).elim
 obtain ⟨bS, a, O⟩ := Bs O
 refine Cs (Xu 1 [(49, .bool (decide (i < ((((h.drop (Int.toNat (if c < 3 then c else 3))).take (Int.toNat (h.length : Int) - Int.toNat (if c < 3 then c else 3)))).length : Int))))] (Xk (Cn [(0, Vl v h w), (1, .map (some A)), (4, Vp y 0), (6, Vi m.1), (9, Vp u 0), (10, Vp p 0), (11, .bool G), (46, Vl L (((h.drop (Int.toNat (if c < 3 then c else 3))).take (Int.toNat (h.length : Int) - Int.toNat (if c < 3 then c else 3)))) N), (47, Vi ((((h.drop (Int.toNat (if c < 3 then c else 3))).take (Int.toNat (h.length : Int) - Int.toNat (if c < 3 then c else 3)))).length : Int)), (48, Vi i), (49, .bool (decide (i < ((((h.drop (Int.toNat (if c < 3 then c else 3))).take (Int.toNat (h.length : Int) - Int.toNat (if c < 3 then c else 3)))).length : Int))))] (fun K => ?_))))
 refine Cq (Ci _ R a (fun a => ?_) (fun a => ?_))
 · refine Ck (Kt (Cq (Cb (Cs (Xu 1 [(50, Vi i)] ?_)))))
   obtain ⟨ak, bC, a⟩ := Bs a
   refine Xq0 (x.el tsl92) tcell9 bC R (fun _ => R) (fun _ => Xu 2 [(12, Vi i), (13, Vs ak)] (Xk (Cs (Xu 1 [(54, Vs ak)] ?_))))
   obtain ⟨l, U, a⟩ := Bs a
   have S := layout_number_w ak _ az U
   refine Xv S R ?_
   rintro ab b0 ⟨rfl, a3⟩
   obtain ⟨o, q, g, k, r, x, f, d⟩ := E8 (Cx.e f a3) o q g k r x f d
   refine Xu 5 [(53, .tuple #[Vi l.1, .bool l.2]), (56, Vi l.1), (57, .bool l.2), (14, Vi l.1), (15, .bool l.2)] (Xk (Cq (Cs (Xu 2 [(58, .bool l.2), (59, .bool (!l.2))] (Xk (Ci _ R a (fun a => ?_) (fun a => ?_)))))))
   · refine Cs (Xg (.agg #[Vi 0, Vs ([] : List UInt8), Vi 0, Vi 0, Vi 0, Vi 0, Vi 0, Vi 0]) R ?_)
     obtain ⟨b1, bk, aE, a5⟩ := Sa [Vi 0, Vs ([] : List UInt8), Vi 0, Vi 0, Vi 0, Vi 0, Vi 0, Vi 0] tagg79 g R R R
     refine Xp bk R ?_
     have d := d.th a5 n 0
     have g := aE
     refine Xu 1 [(5, Vi 6)] (Xk (Cr (Kr (Kb (Kr ?_)))))
     obtain rfl := Sj a
     have aj := Sj O
     subst aj
     have a := al
     refine Kr (Kb (Kr (Rr (Rv [.agg #[Vi 0, Vs ([] : List UInt8), Vi 0, Vi 0, Vi 0, Vi 0, Vi 0, Vi 0], Vi 6] ⟨⟨_, R, Lv (Ra (Mo := []) 0 [Vi 0, Vs ([] : List UInt8), Vi 0, Vi 0, Vi 0, Vi 0, Vi 0, Vi 0] tagg79 g nn R)⟩, R, T0⟩ ?_))))
     obtain rfl := Sj a
     exact ⟨R, d⟩
   refine Ck (Kt (Cs (Xu 2 [(61, .bool G), (62, .bool G)] (Xw 62 G R a (fun a => ?_) (fun a => ?_)))))
   · refine Xu 8 [(63, U0), (64, U0), (65, .bool true), (66, .bool true), (67, U0), (68, U0), (69, .bool true), (11, .bool true)] (Xk (Cn [(0, Vl v h w), (1, .map (some A)), (4, Vp y 0), (6, Vi m.1), (9, Vp u 0), (10, Vp p 0), (11, .bool true), (12, Vi i), (14, Vi l.1), (46, Vl L (((h.drop (Int.toNat (if c < 3 then c else 3))).take (Int.toNat (h.length : Int) - Int.toNat (if c < 3 then c else 3)))) N), (47, Vi ((((h.drop (Int.toNat (if c < 3 then c else 3))).take (Int.toNat (h.length : Int) - Int.toNat (if c < 3 then c else 3)))).length : Int)), (48, Vi i)] (fun K => ?_)))
     refine Cp (Xu 2 [(70, Vi i), (71, Vi l.1)] ?_)
     have ar := Gl a
     have a := Gr a
     refine Yi (Vp p 0) (Vi i) ((Px p (0 + Int.toNat i))) R (reads_arrAt tarr150 tcell3 p 0 i ar _) ?_
     obtain ⟨b2, bl, aF, an⟩ := arr4_store i l.1 ar tcell3 r
     refine Xp bl R ?_
     obtain ⟨o, q, g, k, x, f⟩ := E6 (Cx.j f 2 an) o q g k x f
     have d := d.th an n 2
     have r := aF
     refine Xe R (Kl (Kt (Cp (Xu 2 [(73, Vi (i64.wrap (i + 1))), (48, Vi (i64.wrap (i + 1)))] (Xe R ?_)))))
     obtain rfl := Sj a
     exact Kt ⟨(X, (if i = 0 then l.1 else B), (if i = 1 then l.1 else C), (if i = 2 then l.1 else D), (if i = 3 then l.1 else E), true, i64.wrap (i + 1)), ⟨R, R, R, R, R, R, R, R, R, R, T0⟩, ⟨O, d, f, n, o, q, g, k, r, x⟩, Ns _⟩
   refine Xu 4 [(63, Vi l.1), (64, Bd (l.1 < (-1000000000))), (65, Bd (l.1 < (-1000000000))), (66, Bd (l.1 < (-1000000000)))] (Xw 66 _ R a (fun a => ?_) (fun a => ?_))
   · refine Xu 4 [(67, U0), (68, U0), (69, .bool true), (11, .bool true)] (Xk (Cn [(0, Vl v h w), (1, .map (some A)), (4, Vp y 0), (6, Vi m.1), (9, Vp u 0), (10, Vp p 0), (11, .bool true), (12, Vi i), (14, Vi l.1), (46, Vl L (((h.drop (Int.toNat (if c < 3 then c else 3))).take (Int.toNat (h.length : Int) - Int.toNat (if c < 3 then c else 3)))) N), (47, Vi ((((h.drop (Int.toNat (if c < 3 then c else 3))).take (Int.toNat (h.length : Int) - Int.toNat (if c < 3 then c else 3)))).length : Int)), (48, Vi i)] (fun K => ?_)))
     refine Cp (Xu 2 [(70, Vi i), (71, Vi l.1)] ?_)
     have au := Gl a
     have a := Gr a
     refine Yi (Vp p 0) (Vi i) ((Px p (0 + Int.toNat i))) R (reads_arrAt tarr150 tcell3 p 0 i au _) ?_
     obtain ⟨b3, bm, aG, ao⟩ := arr4_store i l.1 au tcell3 r
     refine Xp bm R ?_
     obtain ⟨o, q, g, k, x, f⟩ := E6 (Cx.j f 2 ao) o q g k x f
     have d := d.th ao n 2
     have r := aG
     refine Xe R (Kl (Kt (Cp (Xu 2 [(73, Vi (i64.wrap (i + 1))), (48, Vi (i64.wrap (i + 1)))] (Xe R ?_)))))
     obtain rfl := Sj a
     exact Kt ⟨(X, (if i = 0 then l.1 else B), (if i = 1 then l.1 else C), (if i = 2 then l.1 else D), (if i = 3 then l.1 else E), true, i64.wrap (i + 1)), ⟨R, R, R, R, R, R, R, R, R, R, T0⟩, ⟨O, d, f, n, o, q, g, k, r, x⟩, Ns _⟩
   refine Xu 4 [(67, Vi l.1), (68, Bd (l.1 > 1000000000)), (69, Bd (l.1 > 1000000000)), (11, Bd (l.1 > 1000000000))] (Xk (Cn [(0, Vl v h w), (1, .map (some A)), (4, Vp y 0), (6, Vi m.1), (9, Vp u 0), (10, Vp p 0), (11, Bd (l.1 > 1000000000)), (12, Vi i), (14, Vi l.1), (46, Vl L (((h.drop (Int.toNat (if c < 3 then c else 3))).take (Int.toNat (h.length : Int) - Int.toNat (if c < 3 then c else 3)))) N), (47, Vi ((((h.drop (Int.toNat (if c < 3 then c else 3))).take (Int.toNat (h.length : Int) - Int.toNat (if c < 3 then c else 3)))).length : Int)), (48, Vi i)] (fun K => ?_)))
   refine Cp (Xu 2 [(70, Vi i), (71, Vi l.1)] ?_)
   have av := Gl a
   have a := Gr a
   refine Yi (Vp p 0) (Vi i) ((Px p (0 + Int.toNat i))) R (reads_arrAt tarr150 tcell3 p 0 i av _) ?_
   obtain ⟨b4, bn, aH, ap⟩ := arr4_store i l.1 av tcell3 r
   refine Xp bn R ?_
   obtain ⟨o, q, g, k, x, f⟩ := E6 (Cx.j f 2 ap) o q g k x f
   have d := d.th ap n 2
   have r := aH
   refine Xe R (Kl (Kt (Cp (Xu 2 [(73, Vi (i64.wrap (i + 1))), (48, Vi (i64.wrap (i + 1)))] (Xe R ?_)))))
   obtain rfl := Sj a
   exact Kt ⟨(X, (if i = 0 then l.1 else B), (if i = 1 then l.1 else C), (if i = 2 then l.1 else D), (if i = 3 then l.1 else E), decide (l.1 > 1000000000), i64.wrap (i + 1)), ⟨R, R, R, R, R, R, R, R, R, R, T0⟩, ⟨O, d, f, n, o, q, g, k, r, x⟩, Ns _⟩
 refine Ce (Ke ?_)
 obtain rfl := Sj a
 have aj := Sj O
 subst aj
 have a := al
 refine Ke (Ki (Kt (Cn [(0, Vl v h w), (1, .map (some A)), (4, Vp y 0), (6, Vi m.1), (9, Vp u 0), (10, Vp p 0), (11, .bool G)] (fun K => ?_))))
 refine Cq (Cs (Xu 1 [(74, .bool G)] (Xk (Ci G R a (fun a => ?_) (fun a => ?_)))))
 · refine Cs (Xg (.agg #[Vi 0, Vs ([] : List UInt8), Vi 0, Vi 0, Vi 0, Vi 0, Vi 0, Vi 0]) R ?_)
   obtain ⟨b5, bo, aI, a6⟩ := Sa [Vi 0, Vs ([] : List UInt8), Vi 0, Vi 0, Vi 0, Vi 0, Vi 0, Vi 0] tagg79 g R R R
   refine Xp bo R ?_
   have d := d.th a6 n 0
   have g := aI
   refine Xu 1 [(5, Vi 2)] (Xk (Cr (Kr (Rr (Rv [.agg #[Vi 0, Vs ([] : List UInt8), Vi 0, Vi 0, Vi 0, Vi 0, Vi 0, Vi 0], Vi 2] ⟨⟨_, R, Lv (Ra (Mo := []) 0 [Vi 0, Vs ([] : List UInt8), Vi 0, Vi 0, Vi 0, Vi 0, Vi 0, Vi 0] tagg79 g nn R)⟩, R, T0⟩ ?_)))))
   obtain rfl := Sj a
   exact ⟨R, d⟩
 refine Ck (Kt (Cq (Cs (Yg u 0 1 (Vs F) R R (Rf tfld79_1 _) tcell9 k nn R ?_))))
 obtain ⟨bN, U, a⟩ := Bs a
 have S := layout_name_w F _ az U
 refine Xv S R ?_
 rintro ab bI ⟨rfl, a7⟩
 obtain ⟨o, q, g, k, r, f, d⟩ := E7 (Cx.e f a7) o q g k r f d
 refine Xu 1 [(79, .bool (!bN))] (Xk (Ci _ R a (fun a => ?_) (fun a => ?_)))
 · refine Cs (Xg (.agg #[Vi 0, Vs ([] : List UInt8), Vi 0, Vi 0, Vi 0, Vi 0, Vi 0, Vi 0]) R ?_)
   obtain ⟨b6, bp, aJ, a8⟩ := Sa [Vi 0, Vs ([] : List UInt8), Vi 0, Vi 0, Vi 0, Vi 0, Vi 0, Vi 0] tagg79 g R R R
   refine Xp bp R ?_
   have d := d.th a8 n 0
   have g := aJ
   refine Xu 1 [(5, Vi 7)] (Xk (Cr (Kr (Rr (Rv [.agg #[Vi 0, Vs ([] : List UInt8), Vi 0, Vi 0, Vi 0, Vi 0, Vi 0, Vi 0], Vi 7] ⟨⟨_, R, Lv (Ra (Mo := []) 0 [Vi 0, Vs ([] : List UInt8), Vi 0, Vi 0, Vi 0, Vi 0, Vi 0, Vi 0] tagg79 g nn R)⟩, R, T0⟩ ?_)))))
   obtain rfl := Sj a
   exact ⟨R, d⟩
 refine Ck (Kt (Cq (Cs (Xu 2 [(81, Vi m.1), (82, .bool (m.1 == 0))] (Xk (Ci _ R a (fun a => ?_) (fun a => ?_)))))))
 · refine Cs (Yl _ _ R (Ra 0 [Vi m.1, Vs F, Vi (-1), Vi 0, Vi 0, Vi 0, Vi 0, Vi 0] tagg79 k nn R) ?_)
   obtain ⟨b7, bq, aK, a9⟩ := Sa [Vi m.1, Vs F, Vi (-1), Vi 0, Vi 0, Vi 0, Vi 0, Vi 0] tagg79 g R R R
   refine Xp bq R ?_
   have d := d.th a9 n 0
   have g := aK
   refine Xu 1 [(5, Vi 0)] (Xk (Cr (Kr (Rr (Rv [.agg #[Vi m.1, Vs F, Vi (-1), Vi 0, Vi 0, Vi 0, Vi 0, Vi 0], Vi 0] ⟨⟨_, R, Lv (Ra (Mo := []) 0 [Vi m.1, Vs F, Vi (-1), Vi 0, Vi 0, Vi 0, Vi 0, Vi 0] tagg79 g nn R)⟩, R, T0⟩ ?_)))))
   obtain rfl := Sj a
   exact ⟨R, d⟩
 refine Ck (Kt (Cs (Xu 1 [(85, Vl v h w)] ?_)))
 obtain ⟨bO, bD, a⟩ := Bs a
 refine Xq0 (o.el tsl92) tcell9 bD R (fun _ => R) (fun _ => Xu 1 [(88, .map (some A))] ?_)
 obtain ⟨t, U, a⟩ := Bs a
 obtain ⟨bf, bA⟩ := Kc f [] [0, 1, 2, 3]
 have S := layout_parentOf_w bO A Z _ bI _ bf (q.sub bA) U
 refine Xv S R ?_
 rintro ab b8 ⟨rfl, ba⟩
 obtain ⟨g, k, r, f, d⟩ := E5 (Cx.e f ba) g k r f d
 refine Xu 7 [(84, .tuple #[Vi t.1, Vi t.2.1, .bool t.2.2]), (90, Vi t.1), (91, Vi t.2.1), (92, .bool t.2.2), (16, Vi t.1), (17, Vi t.2.1), (7, .bool t.2.2)] (Xk (Cn [(4, Vp y 0), (7, .bool t.2.2), (9, Vp u 0), (10, Vp p 0), (16, Vi t.1), (17, Vi t.2.1)] (fun K => ?_)))
 refine Cq (Cs (Xu 2 [(93, .bool t.2.2), (94, .bool (!t.2.2))] (Xk (Ci _ R a (fun a => ?_) (fun a => ?_)))))
 · refine Cs (Xg (.agg #[Vi 0, Vs ([] : List UInt8), Vi 0, Vi 0, Vi 0, Vi 0, Vi 0, Vi 0]) R ?_)
   obtain ⟨b9, br, aL, bb⟩ := Sa [Vi 0, Vs ([] : List UInt8), Vi 0, Vi 0, Vi 0, Vi 0, Vi 0, Vi 0] tagg79 g R R R
   refine Xp br R ?_
   have d := d.th bb n 0
   have g := aL
   refine Xu 1 [(5, Vi 7)] (Xk (Cr (Kr (Rr (Rv [.agg #[Vi 0, Vs ([] : List UInt8), Vi 0, Vi 0, Vi 0, Vi 0, Vi 0, Vi 0], Vi 7] ⟨⟨_, R, Lv (Ra (Mo := []) 0 [Vi 0, Vs ([] : List UInt8), Vi 0, Vi 0, Vi 0, Vi 0, Vi 0, Vi 0] tagg79 g nn R)⟩, R, T0⟩ ?_)))))
   obtain rfl := Sj a
   exact ⟨R, d⟩
 refine Ck (Kt (Cs (Xu 2 [(96, Vi t.1), (97, Vi t.2.1)] (Yf (Vp u 0) (Vp u 2) R (Rf tfld79_2 _) ?_))))
 obtain ⟨ca, bs, aN, ad⟩ := Sx 2 (Vi t.1) tcell3 k
 refine Xp bs R ?_
 have g := ad.box g (f.apart 0 1 R R R _ mem1)
 have r := ad.box r (f.apart 2 1 R R R _ mem1)
 have f := f.ev ad
 have d := d.th ad n 1
 have k := aN
 refine Yf (Vp u 0) (Vp u 3) R (Rf tfld79_3 _) ?_
 obtain ⟨ac, bt, aO, ae⟩ := Sx 3 (Vi t.2.1) tcell3 k
 refine Xp bt R ?_
 have g := ae.box g (f.apart 0 1 R R R _ mem1)
 have r := ae.box r (f.apart 2 1 R R R _ mem1)
 have f := f.ev ae
 have d := d.th ae n 1
 have k := aO
 refine Xk (Cq (Cd [u] [(0, true), (1, true), (2, false), (3, false), (4, false), (5, false), (6, false), (7, false), (8, true), (9, false), (10, true), (11, false), (12, true), (13, false), (14, true), (15, true)] _ (by kernel_rfl) R ?_))
 have g := (Ev.drew ac).box g nn
 have k := (Ev.drew ac).box k nn
 have r := (Ev.drew ac).box r nn
 have f := f.ev (Ev.drew ac)
 have d := d.ext (Ev.drew ac)
 refine Yi (Vp p 0) (Vi 0) (Vp p 0) R (reads_arrAt tarr150 tcell3 p 0 0 (by decide) _) ?_
 refine Yl _ (Vi B) R (Rb tcell3 r nn 0 _ R) (Yi (Vp p 0) (Vi 1) (Vp p 1) R (reads_arrAt tarr150 tcell3 p 0 1 (by decide) _) ?_)
 refine Yl _ (Vi C) R (Rb tcell3 r ((f.apart 2 1 R R R) _ mem1) 1 _ R) (Yi (Vp p 0) (Vi 2) (Vp p 2) R (reads_arrAt tarr150 tcell3 p 0 2 (by decide) _) ?_)
 refine Yl _ (Vi D) R (Rb tcell3 r ((f.apart 2 1 R R R) _ mem1) 2 _ R) (Yi (Vp p 0) (Vi 3) (Vp p 3) R (reads_arrAt tarr150 tcell3 p 0 3 (by decide) _) ?_)
 refine Yl _ (Vi E) R (Rb tcell3 r ((f.apart 2 1 R R R) _ mem1) 3 _ R) (Yf (Vp u 0) (Vp u 4) R (Rf tfld79_4 _) ?_)
 obtain ⟨bJ, bu, aQ, af⟩ := Sx 4 (Vi B) tcell3 k
 refine Ys bJ _ _ R bu (⟨.inr af, ?_⟩)
 have g := af.box g (f.apart 0 1 R R R _ mem1)
 have f := f.ev af
 have d := d.th af n 1
 have k := aQ
 refine Yf (Vp u 0) (Vp u 5) R (Rf tfld79_5 _) ?_
 obtain ⟨bK, bv, aS, ag⟩ := Sx 5 (Vi C) tcell3 k
 refine Ys bK _ _ R bv (⟨.inr ag, ?_⟩)
 have g := ag.box g (f.apart 0 1 R R R _ mem1)
 have f := f.ev ag
 have d := d.th ag n 1
 have k := aS
 refine Yf (Vp u 0) (Vp u 6) R (Rf tfld79_6 _) ?_
 obtain ⟨bL, bw, aU, ah⟩ := Sx 6 (Vi D) tcell3 k
 refine Ys bL _ _ R bw (⟨.inr ah, ?_⟩)
 have g := ah.box g (f.apart 0 1 R R R _ mem1)
 have f := f.ev ah
 have d := d.th ah n 1
 have k := aU
 refine Yf (Vp u 0) (Vp u 7) R (Rf tfld79_7 _) ?_
 obtain ⟨cb, bx, aX, aq⟩ := Sx 7 (Vi E) tcell3 k
 refine Xp bx R ?_
 have g := aq.box g (f.apart 0 1 R R R _ mem1)
 have d := d.th aq n 1
 have k := aX
 refine Xk (Cs (Yl _ _ R (Ra 0 [Vi m.1, Vs F, Vi t.1, Vi t.2.1, Vi B, Vi C, Vi D, Vi E] tagg79 k nn R) ?_))
 obtain ⟨cc, bz, aY, bc⟩ := Sa [Vi m.1, Vs F, Vi t.1, Vi t.2.1, Vi B, Vi C, Vi D, Vi E] tagg79 g R R R
 refine Xp bz R ?_
 have d := d.th bc n 0
 have g := aY
 refine Xu 1 [(5, Vi 0)] (Xk (Cr (Rr (Rv [.agg #[Vi m.1, Vs F, Vi t.1, Vi t.2.1, Vi B, Vi C, Vi D, Vi E], Vi 0] ⟨⟨_, R, Lv (Ra (Mo := []) 0 [Vi m.1, Vs F, Vi t.1, Vi t.2.1, Vi B, Vi C, Vi D, Vi E] tagg79 g nn R)⟩, R, T0⟩ ?_))))
 obtain rfl := Sj a
 exact ⟨R, d⟩
def layout_Parse_L7 (h : (List (Int × (List UInt8) × Int × Int × Int × Int × Int × Int)) × (List ((List UInt8) × Int)) × (List (List UInt8)) × Int × Int) : Option (Step ((List (Int × (List UInt8) × Int × Int × Int × Int × Int × Int)) × (List ((List UInt8) × Int)) × (List (List UInt8)) × Int × Int) ((Int × Int) ⊕ (List (Int × (List UInt8) × Int × Int × Int × Int × Int × Int)))) :=
match h with
| (b, d, e, f, c) =>
(if (decide (c < f)) = true then
((idx e c).bind fun i =>
((layout_words i).bind fun g =>
(if (((g).length : Int) == 0) = true then
some (.next (b, d, e, f, i64.wrap (c + 1)))
else
((idx g 0).bind fun j =>
((sAt j 0).bind fun k =>
(if (k == 35) = true then
some (.next (b, d, e, f, i64.wrap (c + 1)))
else
((layout_element g d).bind fun a =>
(if (a.2 != 0) = true then
some (.done (.inl (i64.wrap (c + 1), a.2)))
else
(if (!((mget d a.1.2.1).isSome)) = true then
(if b.length + ([(a.1.1, a.1.2.1, a.1.2.2.1, a.1.2.2.2.1, a.1.2.2.2.2.1, a.1.2.2.2.2.2.1, a.1.2.2.2.2.2.2.1, a.1.2.2.2.2.2.2.2)] : List (Int × (List UInt8) × Int × Int × Int × Int × Int × Int)).length ≤ 4294967296 then
some (.next ((b ++ ([(a.1.1, a.1.2.1, a.1.2.2.1, a.1.2.2.2.1, a.1.2.2.2.2.1, a.1.2.2.2.2.2.1, a.1.2.2.2.2.2.2.1, a.1.2.2.2.2.2.2.2)] : List (Int × (List UInt8) × Int × Int × Int × Int × Int × Int))), (mput d a.1.2.1 ((b).length : Int)), e, f, i64.wrap (c + 1)))
else none)
else
(if b.length + ([(a.1.1, a.1.2.1, a.1.2.2.1, a.1.2.2.2.1, a.1.2.2.2.2.1, a.1.2.2.2.2.2.1, a.1.2.2.2.2.2.2.1, a.1.2.2.2.2.2.2.2)] : List (Int × (List UInt8) × Int × Int × Int × Int × Int × Int)).length ≤ 4294967296 then
some (.next ((b ++ ([(a.1.1, a.1.2.1, a.1.2.2.1, a.1.2.2.2.1, a.1.2.2.2.2.1, a.1.2.2.2.2.2.1, a.1.2.2.2.2.2.2.1, a.1.2.2.2.2.2.2.2)] : List (Int × (List UInt8) × Int × Int × Int × Int × Int × Int))), d, e, f, i64.wrap (c + 1)))
else none))))))))))
else
some (.done (.inr b)))
def layout_Parse (a : List UInt8) : Option ((List (Int × (List UInt8) × Int × Int × Int × Int × Int × Int)) × Int × Int) :=
(if (decide ((a.length : Int) > 16384)) = true then
some ([], 0, 3)
else
(if a.length < 4294967281 ∧ 1 ≤ ([10] : List UInt8).length then
((loop layout_Parse_L7 (([] : List (Int × (List UInt8) × Int × Int × Int × Int × Int × Int)), ([] : List ((List UInt8) × Int)), (splitL a ([10] : List UInt8)), (((splitL a ([10] : List UInt8))).length : Int), 0)).bind fun d => match d with
| (.inl (e, f)) => some ([], e, f)
| (.inr b) => ((layout_Valid b).bind fun c =>
(if (c != 0) = true then
some ([], 0, c)
else
some (b, 0, 0))))
else none))
theorem layout_Parse_w (B ab C x) (hgl : GL Tryz.prog 1 C) (d : MS C [x]) (g : layout_Parse B = some ab) : CallVC Tryz.prog 7 [Vs B] C fun ad F => ∃ Q ar, ad = .tuple #[Vl Q ab.1 ar, Vi ab.2.1, Vi ab.2.2] ∧ Ev [] C F ∧ MS F [Bk Q, x] ∧ FR C.heap.size [Bk Q] ∧ OwnS (eProd eI (eProd eStr (eProd eI (eProd eI (eIt4))))) 79 F (fl [Bk Q, x]) Q ar ab.1 := by
 refine Cw hmx Tryz.func7 R R R ?_
 have h := Ev.refl [] C
 have k := FR.nil C.heap.size
 refine Cs (Xu 3 [(2, Z0), (3, Vi 0), (4, Vi 0)] (Xk (Cq (Cs (Xu 1 [(14, Vs B)] (Xn (vs := [Vs B]) (Vi (B.length : Int)) R R R (reads_slen tstr9 _) (Xu 1 [(16, Bd ((B.length : Int) > 16384))] (Xk (Ci _ R g (fun g => ?_) (fun g => ?_))))))))))
 · refine Cs (Xu 3 [(2, Z0), (3, Vi 0), (4, Vi 3)] (Xk (Cr (Kr (Rr (Rv [Z0, Vi 0, Vi 3] ⟨R, R, R, T0⟩ ?_))))))
   obtain rfl := Sj g
   have J := d.pick [none, some 0] [Bk none, x] R
   have I := k.pick [none] [Bk none] R
   exact ⟨none, 0, R, h, J, I, OwnS.nil _ _ _ _⟩
 refine Ck (Kt (Cs (x_makeMap tmap91 none .i64 R R R (fun t bh aG aw ay bp => ?_))))
 refine I1 ?_
 have o : MapH Vs (Value.int .i64) bh t ([] : List ((List UInt8) × Int)) := MapH.mk aw
 have d := d.box ay aG aw
 have k := k.box h.size aG
 have h := h.ext ay
 refine Xu 1 [(5, .map (some t))] (Xk (Cq (Cs (Xu 1 [(18, Vs B)] ?_))))
 have N := Gl g
 have g := Gr g
 have H := split_w Lsplit (f := 32) R ⟨_, Tryz.func32, by kernel_rfl, R⟩ (by kernel_rfl) R (hgl.ev h) (M := fl [[t], x]) (fun bA K => d.lt' K) B ([10] : List UInt8) N.1 N.2
 refine Xv H R ?_
 rintro ad bj ⟨U, Y, rfl, al, i⟩
 have o := o.step al nn
 have d := d.ev al
 have h := h.ext al
 refine Xz tsl92 R (Xu 1 [(21, Vi 0)] (Xk (Cb ?_)))
 obtain ⟨o, i, d⟩ := E3 (Cx.n d) o i d
 have k := k.pn
 have a0 := OwnS.nil (eProd eI (eProd eStr (eProd eI (eProd eI (eIt4))))) 79 bj (fl [Bk none, [t], x])
 obtain ⟨aJ, ak, av⟩ := Bs g
 obtain ⟨G, ak⟩ := Lo ak
 refine Cl (Lr hmx (σ := Nat × (List (Int × (List UInt8) × Int × Int × Int × Int × Int × Int)) × (List ((List UInt8) × Int)) × (List (List UInt8)) × Int × Int × Option Addr × Nat) (fun s => match s with | (_, q, v, z, y, p, r, w) => [(2, Vl r q w), (5, .map (some t)), (19, Vl U z Y), (20, Vi y), (21, Vi p)]) (fun s F => match s with | (bf, q, v, z, y, p, r, w) => loopN layout_Parse_L7 bf (q, v, z, y, p) = some aJ ∧ Ev [] C F ∧ (fun ap => MS F ap ∧ FR C.heap.size [Bk r, [t]] ∧ OwnS (eProd eI (eProd eStr (eProd eI (eProd eI (eIt4))))) 79 F (fl ap) r w q ∧ MapH Vs (Value.int .i64) F t v ∧ SlR eStr F (fl ap) U Y z) [Bk r, [t], x]) (fun s => s.1) (G, ([] : List (Int × (List UInt8) × Int × Int × Int × Int × Int × Int)), ([] : List ((List UInt8) × Int)), (splitL B ([10] : List UInt8)), (((splitL B ([10] : List UInt8))).length : Int), 0, none, 0) ⟨R, R, R, R, R, T0⟩ ⟨ak, h, d, k, a0, o, i⟩ ?_)
 rintro ⟨G, q, v, z, y, p, r, w⟩ ae aI ⟨E, h, d, k, m, o, i⟩
 rcases G with _ | G
 · exact (Lz E).elim
 obtain ⟨bq, g, E⟩ := Bs E
 refine Cs (Xu 1 [(22, Bd (p < y))] (Xk (Cn [(2, Vl r q w), (5, .map (some t)), (19, Vl U z Y), (20, Vi y), (21, Vi p), (22, Bd (p < y))] (fun ae => ?_))))
 refine Cq (Ci _ R g (fun g => ?_) (fun g => ?_))
 · refine Ck (Kt (Cq (Cb (Cs (Xu 1 [(23, Vi p)] ?_)))))
   obtain ⟨an, bc, g⟩ := Bs g
   refine Xq0 (i.el tsl92) tcell9 bc R (fun _ => R) (fun _ => Xu 2 [(6, Vi p), (7, Vs an)] (Xk (Cs (Xu 1 [(26, Vs an)] ?_))))
   obtain ⟨L, K, g⟩ := Bs g
   obtain ⟨aa, ag⟩ := Kc d [] [0, 1, 2]
   have H := layout_words_w an _ aI (fl [Bk r, [t], x]) (hgl.ev h) aa  K
   refine Xv H R ?_
   rintro ad bg ⟨S, X, rfl, ax, aZ, aD, af⟩
   obtain ⟨m, o, i, d⟩ := E4 (Cx.c d [] ax aZ aD) m o i d
   have Z := k.cc h aD
   have h := h.ext ax
   have k := Z
   have af := af.pl d
   refine Xu 1 [(8, Vl S L X)] (Xk (Cq (Cs (Xu 1 [(28, Vl S L X)] (Xz tsl92 R (Xu 2 [(30, .bool (((L).length : Int) == 0)), (31, .bool (((L).length : Int) == 0))] (Xw 31 _ R g (fun g => ?_) (fun g => ?_))))))))
   · refine Xu 6 [(32, U0), (33, U0), (34, U0), (35, U0), (36, U0), (37, .bool true)] (Xk (c_true R (Ce (Ke (Ki (Kt (Cp (Xu 2 [(67, Vi (i64.wrap (p + 1))), (21, Vi (i64.wrap (p + 1)))] (Xe R ?_)))))))))
     obtain rfl := Sj g
     obtain ⟨m, i, d⟩ := E3 (Cx.s d [1, 2, 3]) m i d
     have k := k.px [1, 2]
     exact Kt ⟨(G, q, v, z, y, i64.wrap (p + 1), r, w), ⟨R, R, R, R, R, T0⟩, ⟨E, h, d, k, m, o, i⟩, Ns _⟩
   refine Xu 1 [(32, Vl S L X)] ?_
   obtain ⟨bk, bd, g⟩ := Bs g
   refine Xq0 (af.el tsl92) tcell9 bd R (fun _ => R) (fun _ => ?_)
   obtain ⟨ao, be, g⟩ := Bs g
   refine x_index (xv := Vs bk) (yv := Vi 0) (.int .u8 ao) R R R R (reads_sindex tstr9 be) (Xu 2 [(36, .bool (ao == 35)), (37, .bool (ao == 35))] (Xk (Ci _ R g (fun g => ?_) (fun g => ?_))))
   · refine Ce (Ke (Ki (Kt (Cp (Xu 2 [(67, Vi (i64.wrap (p + 1))), (21, Vi (i64.wrap (p + 1)))] (Xe R ?_))))))
     obtain rfl := Sj g
     obtain ⟨m, i, d⟩ := E3 (Cx.s d [1, 2, 3]) m i d
     have k := k.px [1, 2]
     exact Kt ⟨(G, q, v, z, y, i64.wrap (p + 1), r, w), ⟨R, R, R, R, R, T0⟩, ⟨E, h, d, k, m, o, i⟩, Ns _⟩
   refine Ck (Kt (Cs (Xu 2 [(39, Vl S L X), (40, .map (some t))] ?_)))
   obtain ⟨a, K, g⟩ := Bs g
   obtain ⟨aa, ag⟩ := Kc d [] [1, 3]
   have H := layout_element_w S X L t v _ bg _ aa (af.ro ag (Ko d 0 [1, 3])) (MapH.ro (fun _ _ _ => R) o ((Ko d 2 [1, 3]) _ mem1)) K
   refine Xv H R ?_
   rintro ad br ⟨rfl, aO⟩
   obtain ⟨m, o, i, d, h⟩ := E5 (Cx.e d aO) m o i d h
   refine Xu 3 [(38, .tuple #[.agg #[Vi a.1.1, Vs a.1.2.1, Vi a.1.2.2.1, Vi a.1.2.2.2.1, Vi a.1.2.2.2.2.1, Vi a.1.2.2.2.2.2.1, Vi a.1.2.2.2.2.2.2.1, Vi a.1.2.2.2.2.2.2.2], Vi a.2]), (42, .agg #[Vi a.1.1, Vs a.1.2.1, Vi a.1.2.2.1, Vi a.1.2.2.2.1, Vi a.1.2.2.2.2.1, Vi a.1.2.2.2.2.2.1, Vi a.1.2.2.2.2.2.2.1, Vi a.1.2.2.2.2.2.2.2]), (43, Vi a.2)] (Xj #[Vi 0, Vs ([] : List UInt8), Vi 0, Vi 0, Vi 0, Vi 0, Vi 0, Vi 0] R (fun ai bs aH D aQ => ?_))
   have k := k.box h.size aH
   obtain ⟨m, o, i, d, h⟩ := E5 (Cx.b d aQ aH D) m o i d h
   obtain ⟨bt, a3, aK, az⟩ := Sa [Vi a.1.1, Vs a.1.2.1, Vi a.1.2.2.1, Vi a.1.2.2.2.1, Vi a.1.2.2.2.2.1, Vi a.1.2.2.2.2.2.1, Vi a.1.2.2.2.2.2.2.1, Vi a.1.2.2.2.2.2.2.2] tagg79 D R R R
   refine Xp a3 R ?_
   obtain ⟨m, o, i, d⟩ := E4 (Cx.j d 0 az) m o i d
   have h := h.th az k 0
   have D := aK
   refine Xu 1 [(10, Vi a.2)] (Xk (Cn [(2, Vl r q w), (5, .map (some t)), (6, Vi p), (9, Vp ai 0), (10, Vi a.2), (19, Vl U z Y), (20, Vi y), (21, Vi p)] (fun ae => ?_)))
   refine Cq (Cs (Xu 2 [(44, Vi a.2), (45, .bool (a.2 != 0))] (Xk (Ci _ R g (fun g => ?_) (fun g => ?_)))))
   · refine Cs (Xu 6 [(46, Vi p), (47, Vi (i64.wrap (p + 1))), (48, Vi a.2), (2, Z0), (3, Vi (i64.wrap (p + 1))), (4, Vi a.2)] (Xk (Cr (Kr (Kb (Kr ?_))))))
     obtain rfl := Sj g
     have am := Sj E
     subst am
     have g := av
     refine Kr (Kb (Kr (Rr (Rv [Z0, Vi (i64.wrap (p + 1)), Vi a.2] ⟨R, R, R, T0⟩ ?_))))
     obtain rfl := Sj g
     have J := d.pick [none, some 4] [Bk none, x] R
     have I := k.pick [none] [Bk none] R
     exact ⟨none, 0, R, h, J, I, OwnS.nil _ _ _ _⟩
   refine Ck (Kt (Cq (Cs (Xu 1 [(50, .map (some t))] (Yg ai 0 1 (Vs a.1.2.1) R R (Rf tfld79_1 _) tcell9 D nn R (x_lookup (xv := .map (some t)) (yv := Vs a.1.2.1) (.tuple #[Vi ((mget v a.1.2.1).getD 0), .bool ((mget v a.1.2.1).isSome)]) R R R R (MapH.getok tmap91 tkey9 a.1.2.1 0 (fun C => by kernel_rfl) o nn) ?_))))))
   refine Xu 5 [(49, .tuple #[Vi ((mget v a.1.2.1).getD 0), .bool ((mget v a.1.2.1).isSome)]), (54, Vi ((mget v a.1.2.1).getD 0)), (55, .bool ((mget v a.1.2.1).isSome)), (11, Vi ((mget v a.1.2.1).getD 0)), (12, .bool ((mget v a.1.2.1).isSome))] (Xk (Cs (Xu 2 [(56, .bool ((mget v a.1.2.1).isSome)), (57, .bool (!((mget v a.1.2.1).isSome)))] (Xk (Ci _ R g (fun g => ?_) (fun g => ?_))))))
   · refine Cp (Xu 1 [(58, .map (some t))] (Yg ai 0 1 (Vs a.1.2.1) R R (Rf tfld79_1 _) tcell9 D nn R (Xu 1 [(61, Vl r q w)] (Xz tsl28 R ?_))))
     obtain ⟨bi, a4, aY, aA⟩ := MapH.upd tmap91 tkey9 a.1.2.1 ((q).length : Int) o
     refine x_mapUpdate (xv := .map (some t)) (yv := Vs a.1.2.1) (zv := Vi ((q).length : Int)) bi R R R R R a4 (I1 ?_)
     obtain ⟨m, i, D, d⟩ := E4 (Cx.j d 3 aA) m i D d
     have h := h.th aA k 3
     have o := aY
     refine Xk (Cp (Xu 1 [(63, Vl r q w)] (Yl _ _ R (Ra 0 [Vi a.1.1, Vs a.1.2.1, Vi a.1.2.2.1, Vi a.1.2.2.2.1, Vi a.1.2.2.2.2.1, Vi a.1.2.2.2.2.2.1, Vi a.1.2.2.2.2.2.2.1, Vi a.1.2.2.2.2.2.2.2] tagg79 D nn R) (Xh #[Vi a.1.1, Vs a.1.2.1, Vi a.1.2.2.1, Vi a.1.2.2.2.1, Vi a.1.2.2.2.2.1, Vi a.1.2.2.2.2.2.1, Vi a.1.2.2.2.2.2.2.1, Vi a.1.2.2.2.2.2.2.2] 79 R (fun bl bu a1 aL aS => ?_)))))
     have A := Cx.e d aS
     obtain ⟨m, o, i, d, h⟩ := E5 A m o i d h
     have a7 := A.l (e := (eProd eI (eProd eStr (eProd eI (eProd eI (eIt4)))))) a1 aL 1 [(a.1.1, a.1.2.1, a.1.2.2.1, a.1.2.2.2.1, a.1.2.2.2.2.1, a.1.2.2.2.2.2.1, a.1.2.2.2.2.2.2.1, a.1.2.2.2.2.2.2.2)]
     have N := Gl g
     have g := Gr g
     obtain ⟨ah, aj, bv, a5, aB, aE, bn, ba⟩ := own_appendN tel28 28 m (Mf 2 R) a7 N
     refine Xx R (Rn a5) ?_
     have A := Cx.u d 2 aB aE
     obtain ⟨o, i, d⟩ := E3 A o i d
     have Z := k.ux 2 h aE
     have h := h.th aB k 2
     have k := Z
     have m := ba _ A.st.new
     refine Xu 1 [(2, Vl ah ((q ++ ([(a.1.1, a.1.2.1, a.1.2.2.1, a.1.2.2.2.1, a.1.2.2.2.2.1, a.1.2.2.2.2.2.1, a.1.2.2.2.2.2.2.1, a.1.2.2.2.2.2.2.2)] : List (Int × (List UInt8) × Int × Int × Int × Int × Int × Int)))) aj)] (Xe R (Kl (Kt (Cn [(2, Vl ah ((q ++ ([(a.1.1, a.1.2.1, a.1.2.2.1, a.1.2.2.2.1, a.1.2.2.2.2.1, a.1.2.2.2.2.2.1, a.1.2.2.2.2.2.2.1, a.1.2.2.2.2.2.2.2)] : List (Int × (List UInt8) × Int × Int × Int × Int × Int × Int)))) aj), (5, .map (some t)), (19, Vl U z Y), (20, Vi y), (21, Vi p)] (fun ae => ?_)))))
     refine Cp (Xu 2 [(67, Vi (i64.wrap (p + 1))), (21, Vi (i64.wrap (p + 1)))] (Xe R ?_))
     obtain rfl := Sj g
     obtain ⟨m, i, d⟩ := E3 (Cx.s d [2, 3, 4]) m i d
     have k := k.px [2, 3]
     exact Kt ⟨(G, (q ++ ([(a.1.1, a.1.2.1, a.1.2.2.1, a.1.2.2.2.1, a.1.2.2.2.2.1, a.1.2.2.2.2.2.1, a.1.2.2.2.2.2.2.1, a.1.2.2.2.2.2.2.2)] : List (Int × (List UInt8) × Int × Int × Int × Int × Int × Int))), (mput v a.1.2.1 ((q).length : Int)), z, y, i64.wrap (p + 1), ah, aj), ⟨R, R, R, R, R, T0⟩, ⟨E, h, d, k, m, o, i⟩, Ns _⟩
   refine Ck (Kt (Cp (Xu 1 [(63, Vl r q w)] (Yl _ _ R (Ra 0 [Vi a.1.1, Vs a.1.2.1, Vi a.1.2.2.1, Vi a.1.2.2.2.1, Vi a.1.2.2.2.2.1, Vi a.1.2.2.2.2.2.1, Vi a.1.2.2.2.2.2.2.1, Vi a.1.2.2.2.2.2.2.2] tagg79 D nn R) (Xh #[Vi a.1.1, Vs a.1.2.1, Vi a.1.2.2.1, Vi a.1.2.2.2.1, Vi a.1.2.2.2.2.1, Vi a.1.2.2.2.2.2.1, Vi a.1.2.2.2.2.2.2.1, Vi a.1.2.2.2.2.2.2.2] 79 R (fun bm bw a2 aN aU => ?_))))))
   have A := Cx.e d aU
   obtain ⟨m, o, i, d, h⟩ := E5 A m o i d h
   have a8 := A.l (e := (eProd eI (eProd eStr (eProd eI (eProd eI (eIt4)))))) a2 aN 1 [(a.1.1, a.1.2.1, a.1.2.2.1, a.1.2.2.2.1, a.1.2.2.2.2.1, a.1.2.2.2.2.2.1, a.1.2.2.2.2.2.2.1, a.1.2.2.2.2.2.2.2)]
   have N := Gl g
   have g := Gr g
   obtain ⟨aq, au, bx, a6, aC, aF, bo, bb⟩ := own_appendN tel28 28 m (Mf 2 R) a8 N
   refine Xx R (Rn a6) ?_
   have A := Cx.u d 2 aC aF
   obtain ⟨o, i, d⟩ := E3 A o i d
   have Z := k.ux 2 h aF
   have h := h.th aC k 2
   have k := Z
   have m := bb _ A.st.new
   refine Xu 1 [(2, Vl aq ((q ++ ([(a.1.1, a.1.2.1, a.1.2.2.1, a.1.2.2.2.1, a.1.2.2.2.2.1, a.1.2.2.2.2.2.1, a.1.2.2.2.2.2.2.1, a.1.2.2.2.2.2.2.2)] : List (Int × (List UInt8) × Int × Int × Int × Int × Int × Int)))) au)] (Xe R (Kl (Kt (Cp (Xu 2 [(67, Vi (i64.wrap (p + 1))), (21, Vi (i64.wrap (p + 1)))] (Xe R ?_))))))
   obtain rfl := Sj g
   obtain ⟨m, i, d⟩ := E3 (Cx.s d [2, 3, 4]) m i d
   have k := k.px [2, 3]
   exact Kt ⟨(G, (q ++ ([(a.1.1, a.1.2.1, a.1.2.2.1, a.1.2.2.2.1, a.1.2.2.2.2.1, a.1.2.2.2.2.2.1, a.1.2.2.2.2.2.2.1, a.1.2.2.2.2.2.2.2)] : List (Int × (List UInt8) × Int × Int × Int × Int × Int × Int))), v, z, y, i64.wrap (p + 1), aq, au), ⟨R, R, R, R, R, T0⟩, ⟨E, h, d, k, m, o, i⟩, Ns _⟩
 refine Ce (Ke ?_)
 obtain rfl := Sj g
 have am := Sj E
 subst am
 have g := av
 refine Ke (Ki (Kt (Cn [(2, Vl r q w)] (fun ae => ?_))))
 refine Cq (Cs (Xu 1 [(68, Vl r q w)] ?_))
 obtain ⟨O, K, g⟩ := Bs g
 obtain ⟨aa, ag⟩ := Kc d [] [1, 2]
 have H := layout_Valid_w r w q _ aI _ aa (m.ro ag (Ko d 0 [1, 2])) K
 refine Xv H R ?_
 rintro ad bz ⟨rfl, aX⟩
 obtain ⟨m, d, h⟩ := E3 (Cx.e d aX) m d h
 refine Xu 1 [(13, Vi O)] (Xk (Cs (Xu 2 [(70, Vi O), (71, .bool (O != 0))] (Xk (Ci _ R g (fun g => ?_) (fun g => ?_))))))
 · refine Cs (Xu 4 [(72, Vi O), (2, Z0), (3, Vi 0), (4, Vi O)] (Xk (Cr (Kr (Rr (Rv [Z0, Vi 0, Vi O] ⟨R, R, R, T0⟩ ?_))))))
   obtain rfl := Sj g
   have J := d.pick [none, some 2] [Bk none, x] R
   have I := k.pick [none] [Bk none] R
   exact ⟨none, 0, R, h, J, I, OwnS.nil _ _ _ _⟩
 refine Ck (Kt (Cs (Xu 4 [(73, Vl r q w), (2, Vl r q w), (3, Vi 0), (4, Vi 0)] (Xk (Cr (Rr (Rv [Vl r q w, Vi 0, Vi 0] ⟨R, R, R, T0⟩ ?_)))))))
 obtain rfl := Sj g
 have J := d.pk [0, 2] [Bk r, x] R
 have a9 := Pk (ls := [Bk r, [t], x]) [0, 2] [Bk r, x] R
 have I := k.pk [0] [Bk r] R
 exact ⟨r, w, R, h, J, I, m.sub a9⟩
end Go.Proofs.YtlgdhajakblkaaaGreatDoor
