
/- Walks, printed by program: each function returns what the partial function of the same name returns. Conditions: those of each theorem. -/
import Derived.Test.YtlgdhajakblkaaaGreatDoorGT
import Derived.Test.YtlgdhajakblkaaaGreatDoorGinterval
import Derived.Test.YtlgdhajakblkaaaGreatDoorGtree
set_option linter.unusedVariables false
set_option linter.unusedSimpArgs false
set_option maxRecDepth 4000
namespace Go.Proofs.YtlgdhajakblkaaaGreatDoor
open Go Go.V Go.Proofs Go.IntKind
def runoff_Path_L11 (f : List (Int × (List UInt8) × Int × Int × Int × Int × Int × Int)) (b : (List Int) × Int) (g : (List (Int × Int × Int × Int × Int)) × Int) : Option (Step ((List (Int × Int × Int × Int × Int)) × Int) (List (Int × Int × Int × Int × Int))) :=
match g with
| (c, d) =>
(if (decide (d < ((((b.1.drop (Int.toNat (1 : Int))).take (Int.toNat (b.1.length : Int) - Int.toNat (1 : Int)))).length : Int))) = true then
((idx ((b.1.drop (Int.toNat (1 : Int))).take (Int.toNat (b.1.length : Int) - Int.toNat (1 : Int))) d).bind fun e =>
((idx f e).bind fun a =>
(if c.length + ([(e, a.2.2.2.2.1, a.2.2.2.2.2.1, a.2.2.2.2.2.2.1, a.2.2.2.2.2.2.2)] : List (Int × Int × Int × Int × Int)).length ≤ 4294967296 then
some (.next ((c ++ ([(e, a.2.2.2.2.1, a.2.2.2.2.2.1, a.2.2.2.2.2.2.1, a.2.2.2.2.2.2.2)] : List (Int × Int × Int × Int × Int))), i64.wrap (d + 1)))
else none)))
else
some (.done c))
def runoff_Path (b : List (Int × (List UInt8) × Int × Int × Int × Int × Int × Int)) (c : Int) : Option ((List (Int × Int × Int × Int × Int)) × Int) :=
((tree_Path b c).bind fun a =>
(if (a.2 != 0) = true then
some ([], a.2)
else
((idx b c).bind fun f =>
(if (f.1 != 4) = true then
some ([], 2)
else
(if 0 ≤ (1 : Int) ∧ (1 : Int) ≤ (a.1.length : Int) ∧ (a.1.length : Int) ≤ (a.1.length : Int) then
((loop (runoff_Path_L11 b a) (([] : List (Int × Int × Int × Int × Int)), 0)).bind fun d => match d with
| e => some (e, 0))
else none)))))
theorem runoff_Path_w (v x r U Z z p) (f : MS z [p]) (h : SlR (eProd eI (eProd eStr (eProd eI (eProd eI (eIt4))))) z (fl [p]) v x r) (g : runoff_Path r U = some Z) : CallVC Tryz.prog 10 [Vl v r x, Vi U] z fun ao A => ∃ H ah, ao = .tuple #[Vl H Z.1 ah, Vi Z.2] ∧ Ev [] z A ∧ MS A [Bk H, p] ∧ FR z.heap.size [Bk H] ∧ OwnS (eProd eI (eIt4)) 102 A (fl [Bk H, p]) H ah Z.1 := by
 refine Cw hmx Tryz.func10 R R R ?_
 have k := Ev.refl [] z
 have i := FR.nil z.heap.size
 refine Cs (Xu 2 [(4, Z0), (5, Vi 0)] (Xk (Cs (Xu 2 [(13, Vl v r x), (14, Vi U)] ?_))))
 obtain ⟨d, aI, g⟩ := Bs g
 obtain ⟨ag, aG⟩ := Kc f [] [0]
 have aw := tree_Path_w v x r U _ z _ ag (h.sub aG) aI
 refine Xv aw R ?_
 rintro ao ap ⟨F, J, rfl, ak, az, al, K⟩
 obtain ⟨h, f⟩ := E2 (Cx.c f [] ak az al) h f
 have ae := i.cc k al
 have k := k.ext ak
 have i := ae
 have K := K.pl f
 refine Xu 5 [(12, .tuple #[Vl F d.1 J, Vi d.2]), (16, Vl F d.1 J), (17, Vi d.2), (6, Vl F d.1 J), (7, Vi d.2)] (Xk (Cq (Cs (Xu 2 [(18, Vi d.2), (19, .bool (d.2 != 0))] (Xk (Ci _ R g (fun g => ?_) (fun g => ?_)))))))
 · refine Cs (Xu 3 [(20, Vi d.2), (4, Z0), (5, Vi d.2)] (Xk (Cr (Kr (Rr (Rv [Z0, Vi d.2] ⟨R, R, T0⟩ ?_))))))
   obtain rfl := Sj g
   have N := f.pick [none, some 1] [Bk none, p] R
   have L := i.pick [none] [Bk none] R
   exact ⟨none, 0, R, k, N, L, OwnS.nil _ _ _ _⟩
 refine Ck (Kt (Cq (Cs (Xu 2 [(21, Vl v r x), (22, Vi U)] ?_))))
 obtain ⟨aQ, aL, g⟩ := Bs g
 refine Xq (h.el tsl28) tfld79_0 tcell3 aL R (fun _ => R) (fun _ => Xu 1 [(26, .bool (aQ.1 != 4))] (Xk (Ci _ R g (fun g => ?_) (fun g => ?_))))
 · refine Cs (Xu 2 [(4, Z0), (5, Vi 2)] (Xk (Cn [(4, Z0), (5, Vi 2)] (fun G => ?_))))
   refine Cr (Kr (Rr (Rv [Z0, Vi 2] ⟨R, R, T0⟩ ?_)))
   obtain rfl := Sj g
   have N := f.pick [none, some 1] [Bk none, p] R
   have L := i.pick [none] [Bk none] R
   exact ⟨none, 0, R, k, N, L, OwnS.nil _ _ _ _⟩
 refine Ck (Kt (Cs (Xu 1 [(8, Z0)] (Xk (Cq (Cs (Xu 1 [(27, Vl F d.1 J)] ?_)))))))
 have ag := f.pk [1] [p] R
 have Y := Pk (ls := [Bk F, p]) [1] [p] R
 have h := h.sub Y
 have K := K.ro Y (pick_out f 0 R [some 1] [p] R R)
 have f := ag
 have i := i.px []
 have af := Gl g
 have g := Gr g
 obtain ⟨C, D, aE, m⟩ := SlR.sliced (P := Tryz.prog) (Mo := []) tsl22 K (some 1) none af
 replace m : SlR eI ap (fl [p]) C D ((d.1.drop (Int.toNat (1 : Int))).take (Int.toNat (d.1.length : Int) - Int.toNat (1 : Int))) := m
 refine x_slice (xv := Vl F d.1 J) (lv := (some (Vi 1))) (hv := none) (mv := none) (Vl C (((d.1.drop (Int.toNat (1 : Int))).take (Int.toNat (d.1.length : Int) - Int.toNat (1 : Int)))) D) R R R R R R aE (Xz tsl22 R (Xu 1 [(30, Vi 0)] (Xk (Cn [(0, Vl v r x), (8, Z0), (28, Vl C (((d.1.drop (Int.toNat (1 : Int))).take (Int.toNat (d.1.length : Int) - Int.toNat (1 : Int)))) D), (29, Vi ((((d.1.drop (Int.toNat (1 : Int))).take (Int.toNat (d.1.length : Int) - Int.toNat (1 : Int)))).length : Int)), (30, Vi 0)] (fun G => ?_)))))
 refine Cb ?_
 obtain ⟨h, m, f⟩ := E3 (Cx.n f) h m f
 have i := i.pn
 have aA := OwnS.nil (eProd eI (eIt4)) 102 ap (fl [Bk none, p])
 obtain ⟨aq, ad, ar⟩ := Bs g
 obtain ⟨S, ad⟩ := Lo ad
 refine Cl (Lr hmx (σ := Nat × (List (Int × Int × Int × Int × Int)) × Int × Option Addr × Nat) (fun X => match X with | (_, q, y, o, w) => [(0, Vl v r x), (8, Vl o q w), (28, Vl C (((d.1.drop (Int.toNat (1 : Int))).take (Int.toNat (d.1.length : Int) - Int.toNat (1 : Int)))) D), (29, Vi ((((d.1.drop (Int.toNat (1 : Int))).take (Int.toNat (d.1.length : Int) - Int.toNat (1 : Int)))).length : Int)), (30, Vi y)]) (fun X A => match X with | (aO, q, y, o, w) => loopN (runoff_Path_L11 r d) aO (q, y) = some aq ∧ Ev [] z A ∧ (fun aa => MS A aa ∧ FR z.heap.size [Bk o] ∧ SlR (eProd eI (eProd eStr (eProd eI (eProd eI (eIt4))))) A (fl aa) v x r ∧ OwnS (eProd eI (eIt4)) 102 A (fl aa) o w q ∧ SlR eI A (fl aa) C D ((d.1.drop (Int.toNat (1 : Int))).take (Int.toNat (d.1.length : Int) - Int.toNat (1 : Int)))) [Bk o, p]) (fun X => X.1) (S, ([] : List (Int × Int × Int × Int × Int)), 0, none, 0) ⟨R, R, R, R, R, T0⟩ ⟨ad, k, f, i, h, aA, m⟩ ?_)
 rintro ⟨S, q, y, o, w⟩ G a2 ⟨O, k, f, i, h, t, m⟩
 rcases S with _ | S
 · exact (Lz O).elim
 obtain ⟨aX, g, O⟩ := Bs O
 refine Cs (Xu 1 [(31, .bool (decide (y < ((((d.1.drop (Int.toNat (1 : Int))).take (Int.toNat (d.1.length : Int) - Int.toNat (1 : Int)))).length : Int))))] (Xk (Cn [(0, Vl v r x), (8, Vl o q w), (28, Vl C (((d.1.drop (Int.toNat (1 : Int))).take (Int.toNat (d.1.length : Int) - Int.toNat (1 : Int)))) D), (29, Vi ((((d.1.drop (Int.toNat (1 : Int))).take (Int.toNat (d.1.length : Int) - Int.toNat (1 : Int)))).length : Int)), (30, Vi y), (31, .bool (decide (y < ((((d.1.drop (Int.toNat (1 : Int))).take (Int.toNat (d.1.length : Int) - Int.toNat (1 : Int)))).length : Int))))] (fun G => ?_))))
 refine Cq (Ci _ R g (fun g => ?_) (fun g => ?_))
 · refine Ck (Kt (Cq (Cb (Cs ?_))))
   obtain ⟨B, aJ, g⟩ := Bs g
   refine Xq0 (m.el tsl22) tcell3 aJ R (fun _ => R) (fun _ => Xu 1 [(10, Vi B)] (Xk (Cs (Xu 2 [(34, Vl v r x), (35, Vi B)] ?_))))
   obtain ⟨a, aK, g⟩ := Bs g
   refine Xqa [Vi a.1, Vs a.2.1, Vi a.2.2.1, Vi a.2.2.2.1, Vi a.2.2.2.2.1, Vi a.2.2.2.2.2.1, Vi a.2.2.2.2.2.2.1, Vi a.2.2.2.2.2.2.2] (h.el tsl28) tagg79 aK R (fun _ => R) (fun _ => Xj #[Vi 0, Vs ([] : List UInt8), Vi 0, Vi 0, Vi 0, Vi 0, Vi 0, Vi 0] R (fun I aY an E ax => ?_))
   have i := i.box k.size an
   obtain ⟨h, t, m, f, k⟩ := E5 (Cx.b f ax an E) h t m f k
   obtain ⟨aZ, aC, au, ai⟩ := Sa [Vi a.1, Vs a.2.1, Vi a.2.2.1, Vi a.2.2.2.1, Vi a.2.2.2.2.1, Vi a.2.2.2.2.2.1, Vi a.2.2.2.2.2.2.1, Vi a.2.2.2.2.2.2.2] tagg79 E R R R
   refine Xp aC R ?_
   obtain ⟨h, t, m, f⟩ := E4 (Cx.j f 0 ai) h t m f
   have k := k.th ai i 0
   have E := au
   refine Xk (Cp (Xu 2 [(38, Vl o q w), (39, Vi B)] (Yg I 0 4 (Vi a.2.2.2.2.1) R R (Rf tfld79_4 _) tcell3 E nn R (Yg I 0 5 (Vi a.2.2.2.2.2.1) R R (Rf tfld79_5 _) tcell3 E nn R (Yg I 0 6 (Vi a.2.2.2.2.2.2.1) R R (Rf tfld79_6 _) tcell3 E nn R (Yf (Vp I 0) (Vp I 7) R (Rf tfld79_7 _) ?_))))))
   refine Yl _ (Vi a.2.2.2.2.2.2.2) R (Rb tcell3 E nn 7 _ R) (Xg (.agg #[Vi B, Vi a.2.2.2.2.1, Vi a.2.2.2.2.2.1, Vi a.2.2.2.2.2.2.1, Vi a.2.2.2.2.2.2.2]) R (Xh #[Vi B, Vi a.2.2.2.2.1, Vi a.2.2.2.2.2.1, Vi a.2.2.2.2.2.2.1, Vi a.2.2.2.2.2.2.2] 102 R (fun aS a0 aB av ay => ?_)))
   have Q := Cx.e f ay
   obtain ⟨h, t, m, f, k⟩ := E5 Q h t m f k
   have aF := Q.l (e := (eProd eI (eIt4))) aB av 1 [(B, a.2.2.2.2.1, a.2.2.2.2.2.1, a.2.2.2.2.2.2.1, a.2.2.2.2.2.2.2)]
   have af := Gl g
   have g := Gr g
   obtain ⟨ab, ac, a1, aD, aj, am, aU, aH⟩ := own_appendN tel35 35 t (Mf 1 R) aF af
   refine Xx R (Rn aD) ?_
   have Q := Cx.u f 1 aj am
   obtain ⟨h, m, f⟩ := E3 Q h m f
   have ae := i.ux 1 k am
   have k := k.th aj i 1
   have i := ae
   have t := aH _ Q.st.new
   refine Xu 1 [(8, Vl ab ((q ++ ([(B, a.2.2.2.2.1, a.2.2.2.2.2.1, a.2.2.2.2.2.2.1, a.2.2.2.2.2.2.2)] : List (Int × Int × Int × Int × Int)))) ac)] (Xe R (Kl (Kt (Cn [(0, Vl v r x), (8, Vl ab ((q ++ ([(B, a.2.2.2.2.1, a.2.2.2.2.2.1, a.2.2.2.2.2.2.1, a.2.2.2.2.2.2.2)] : List (Int × Int × Int × Int × Int)))) ac), (28, Vl C (((d.1.drop (Int.toNat (1 : Int))).take (Int.toNat (d.1.length : Int) - Int.toNat (1 : Int)))) D), (29, Vi ((((d.1.drop (Int.toNat (1 : Int))).take (Int.toNat (d.1.length : Int) - Int.toNat (1 : Int)))).length : Int)), (30, Vi y)] (fun G => ?_)))))
   refine Cp (Xu 2 [(51, Vi (i64.wrap (y + 1))), (30, Vi (i64.wrap (y + 1)))] (Xe R ?_))
   obtain rfl := Sj g
   obtain ⟨h, t, m, f⟩ := E4 (Cx.s f [1, 2]) h t m f
   have i := i.px [1]
   exact Kt ⟨(S, (q ++ ([(B, a.2.2.2.2.1, a.2.2.2.2.2.1, a.2.2.2.2.2.2.1, a.2.2.2.2.2.2.2)] : List (Int × Int × Int × Int × Int))), i64.wrap (y + 1), ab, ac), ⟨R, R, R, R, R, T0⟩, ⟨O, k, f, i, h, t, m⟩, Ns _⟩
 refine Ce (Ke ?_)
 obtain rfl := Sj g
 have aN := Sj O
 subst aN
 have g := ar
 refine Ke (Ki (Kt (Cn [(8, Vl o q w)] (fun G => ?_))))
 refine Cs (Xu 3 [(52, Vl o q w), (4, Vl o q w), (5, Vi 0)] (Xk (Cr (Rr (Rv [Vl o q w, Vi 0] ⟨R, R, T0⟩ ?_)))))
 obtain rfl := Sj g
 have N := f.pk [0, 1] [Bk o, p] R
 have Y := Pk (ls := [Bk o, p]) [0, 1] [Bk o, p] R
 have L := i.pk [0] [Bk o] R
 exact ⟨o, w, R, k, N, L, t.sub Y⟩
def runoff_in (a : Int) (b : Int) (c : Int) : Option Bool :=
(if (decide (a ≥ b)) = true then
some (decide (a ≤ c))
else
some false)
theorem runoff_in_w (a d b g e) (c : runoff_in a d b = some g) : CallVC Tryz.prog 49 [Vi a, Vi d, Vi b] e fun h i => h = .bool g ∧ Ev [] e i := by
 refine Cw hmx Tryz.func49 R R R ?_
 have f := Ev.refl [] e
 refine Cs (Xu 1 [(6, .bool false)] (Xk (Cs (Xu 4 [(7, Vi a), (8, Vi d), (9, Bd (a ≥ d)), (10, Bd (a ≥ d))] (Xw 10 _ R c (fun c => ?_) (fun c => ?_))))))
 · refine Xu 5 [(11, Vi a), (12, Vi b), (13, Bd (a ≤ b)), (14, Bd (a ≤ b)), (6, Bd (a ≤ b))] (Xk (Cr (Rz (Bd (a ≤ b)) R ?_)))
   obtain rfl := Sj c
   exact ⟨R, f⟩
 refine Xu 5 [(11, U0), (12, U0), (13, U0), (14, .bool false), (6, .bool false)] (Xk (Cr (Rz (.bool false) R ?_)))
 obtain rfl := Sj c
 exact ⟨R, f⟩
def runoff_Valid_L3 (c : List (Int × Int × Int × Int × Int)) (d : Int) : Option (Step Int (Unit ⊕ Unit)) :=
match d with
| b =>
(if (decide (b < ((c).length : Int))) = true then
((idx c b).bind fun a =>
((runoff_in a.1 0 127).bind fun e =>
(if (!e) = true then
some (.done (.inl ()))
else
((runoff_in a.2.1 1 1000000).bind fun f =>
(if (!f) = true then
some (.done (.inl ()))
else
((runoff_in a.2.2.1 (-10000) 10000).bind fun g =>
(if (!g) = true then
some (.done (.inl ()))
else
((runoff_in a.2.2.2.1 0 5000).bind fun h =>
(if (!h) = true then
some (.done (.inl ()))
else
((runoff_in a.2.2.2.2 0 1000000000).bind fun i =>
(if (!i) = true then
some (.done (.inl ()))
else
some (.next (i64.wrap (b + 1))))))))))))))
else
some (.done (.inr ())))
def runoff_Valid (a : List (Int × Int × Int × Int × Int)) : Option Int :=
(if (decide (((a).length : Int) < 1)) = true then
some 3
else
(if (decide (((a).length : Int) > 128)) = true then
some 3
else
((loop (runoff_Valid_L3 a) 0).bind fun b => match b with
| (.inl _) => some 1
| (.inr _) => some 0)))
theorem runoff_Valid_w (l m c J t B) (d : MS t [B]) (g : SlR (eProd eI (eIt4)) t (fl [B]) l m c) (a : runoff_Valid c = some J) : CallVC Tryz.prog 47 [Vl l c m] t fun w A => w = Vi J ∧ Ev [] t A := by
 refine Cw hmx Tryz.func47 R R R ?_
 have f := Ev.refl [] t
 have r := FR.nil t.heap.size
 refine Cs (Xu 1 [(2, Vi 0)] (Xk (Cq (Cs (Xu 1 [(5, Vl l c m)] (Xz tsl35 R (Xu 2 [(7, Bd (((c).length : Int) < 1)), (8, Bd (((c).length : Int) < 1))] (Xw 8 _ R a (fun a => ?_) (fun a => ?_)))))))))
 · refine Xu 4 [(9, U0), (10, U0), (11, U0), (12, .bool true)] (Xk (c_true R (Cs (Xu 1 [(2, Vi 3)] (Xk (Cr (Kr (Rz (Vi 3) R ?_))))))))
   obtain rfl := Sj a
   exact ⟨R, f⟩
 refine Xu 1 [(9, Vl l c m)] (Xz tsl35 R (Xu 2 [(11, Bd (((c).length : Int) > 128)), (12, Bd (((c).length : Int) > 128))] (Xk (Ci _ R a (fun a => ?_) (fun a => ?_)))))
 · refine Cs (Xu 1 [(2, Vi 3)] (Xk (Cr (Kr (Rz (Vi 3) R ?_)))))
   obtain rfl := Sj a
   exact ⟨R, f⟩
 refine Ck (Kt (Cq (Cs (Xu 1 [(13, Vl l c m)] (Xz tsl35 R (Xu 1 [(15, Vi 0)] (Xk (Cb ?_))))))))
 obtain ⟨L, C, v⟩ := Bs a
 obtain ⟨y, C⟩ := Lo C
 refine Cl (Lr hmx (σ := Nat × Int) (fun z => match z with | (_, k) => [(13, Vl l c m), (14, Vi ((c).length : Int)), (15, Vi k)]) (fun z A => match z with | (ab, k) => loopN (runoff_Valid_L3 c) ab k = some L ∧ Ev [] t A ∧ MS A [B] ∧ FR t.heap.size [] ∧ SlR (eProd eI (eIt4)) A (fl [B]) l m c) (fun z => z.1) (y, 0) ⟨R, R, R, T0⟩ ⟨C, f, d, r, g⟩ ?_)
 rintro ⟨y, k⟩ u ak ⟨o, f, d, r, g⟩
 rcases y with _ | y
 · exact (Lz o).elim
 obtain ⟨ah, a, o⟩ := Bs o
 refine Cs (Xu 1 [(16, Bd (k < ((c).length : Int)))] (Xk (Cn [(13, Vl l c m), (14, Vi ((c).length : Int)), (15, Vi k), (16, Bd (k < ((c).length : Int)))] (fun u => ?_))))
 refine Cq (Ci _ R a (fun a => ?_) (fun a => ?_))
 · refine Ck (Kt (Cq (Cb (Cs ?_))))
   obtain ⟨h, aa, a⟩ := Bs a
   refine Xqa [Vi h.1, Vi h.2.1, Vi h.2.2.1, Vi h.2.2.2.1, Vi h.2.2.2.2] (g.el tsl35) tagg102 aa R (fun _ => R) (fun _ => Xj #[Vi 0, Vi 0, Vi 0, Vi 0, Vi 0] R (fun x aj I i Y => ?_))
   have r := r.box f.size I
   obtain ⟨g, d, f⟩ := E3 (Cx.b d Y I i) g d f
   obtain ⟨ag, Z, N, H⟩ := Sa [Vi h.1, Vi h.2.1, Vi h.2.2.1, Vi h.2.2.2.1, Vi h.2.2.2.2] tagg102 i R R R
   refine Xp Z R ?_
   obtain ⟨g, d⟩ := E2 (Cx.j d 0 H) g d
   have f := f.th H r 0
   have i := N
   refine Xk (Cs (Yg x 0 0 (Vi h.1) R R (Rf tfld102_0 _) tcell3 i nn R ?_))
   obtain ⟨K, q, a⟩ := Bs a
   have p := runoff_in_w h.1 0 127 _ ag q
   refine Xv p R ?_
   rintro w ac ⟨rfl, O⟩
   obtain ⟨g, i, d, f⟩ := E4 (Cx.e d O) g i d f
   refine Xu 2 [(22, .bool (!K)), (23, .bool (!K))] (Xw 23 _ R a (fun a => ?_) (fun a => ?_))
   · refine Xu 23 (Un 24 4 ++ [(28, .bool true), (29, .bool true)] ++ Un 30 4 ++ [(34, .bool true), (35, .bool true)] ++ Un 36 4 ++ [(40, .bool true), (41, .bool true)] ++ Un 42 4 ++ [(46, .bool true)]) (Xk (Cn [(13, Vl l c m), (14, Vi ((c).length : Int)), (15, Vi k), (46, .bool true)] (fun u => ?_)))
     refine c_true R (Cs (Xu 1 [(2, Vi 1)] (Xk (Cr (Kb (Kr ?_))))))
     obtain rfl := Sj a
     have n := Sj o
     subst n
     have a := v
     refine Kr (Kb (Kr (Rz (Vi 1) R ?_)))
     obtain rfl := Sj a
     exact ⟨R, f⟩
   refine Yg x 0 1 (Vi h.2.1) R R (Rf tfld102_1 _) tcell3 i nn R ?_
   obtain ⟨D, q, a⟩ := Bs a
   have p := runoff_in_w h.2.1 1 1000000 _ ac q
   refine Xv p R ?_
   rintro w ad ⟨rfl, Q⟩
   obtain ⟨g, i, d, f⟩ := E4 (Cx.e d Q) g i d f
   refine Xu 3 [(27, .bool (!D)), (28, .bool (!D)), (29, .bool (!D))] (Xw 29 _ R a (fun a => ?_) (fun a => ?_))
   · refine Xu 17 (Un 30 4 ++ [(34, .bool true), (35, .bool true)] ++ Un 36 4 ++ [(40, .bool true), (41, .bool true)] ++ Un 42 4 ++ [(46, .bool true)]) (Xk (Cn [(13, Vl l c m), (14, Vi ((c).length : Int)), (15, Vi k), (46, .bool true)] (fun u => ?_)))
     refine c_true R (Cs (Xu 1 [(2, Vi 1)] (Xk (Cr (Kb (Kr ?_))))))
     obtain rfl := Sj a
     have n := Sj o
     subst n
     have a := v
     refine Kr (Kb (Kr (Rz (Vi 1) R ?_)))
     obtain rfl := Sj a
     exact ⟨R, f⟩
   refine Yg x 0 2 (Vi h.2.2.1) R R (Rf tfld102_2 _) tcell3 i nn R ?_
   obtain ⟨E, q, a⟩ := Bs a
   have p := runoff_in_w h.2.2.1 (-10000) 10000 _ ad q
   refine Xv p R ?_
   rintro w ae ⟨rfl, S⟩
   obtain ⟨g, i, d, f⟩ := E4 (Cx.e d S) g i d f
   refine Xu 3 [(33, .bool (!E)), (34, .bool (!E)), (35, .bool (!E))] (Xw 35 _ R a (fun a => ?_) (fun a => ?_))
   · refine Xu 11 (Un 36 4 ++ [(40, .bool true), (41, .bool true)] ++ Un 42 4 ++ [(46, .bool true)]) (Xk (Cn [(13, Vl l c m), (14, Vi ((c).length : Int)), (15, Vi k), (46, .bool true)] (fun u => ?_)))
     refine c_true R (Cs (Xu 1 [(2, Vi 1)] (Xk (Cr (Kb (Kr ?_))))))
     obtain rfl := Sj a
     have n := Sj o
     subst n
     have a := v
     refine Kr (Kb (Kr (Rz (Vi 1) R ?_)))
     obtain rfl := Sj a
     exact ⟨R, f⟩
   refine Yg x 0 3 (Vi h.2.2.2.1) R R (Rf tfld102_3 _) tcell3 i nn R ?_
   obtain ⟨F, q, a⟩ := Bs a
   have p := runoff_in_w h.2.2.2.1 0 5000 _ ae q
   refine Xv p R ?_
   rintro w af ⟨rfl, U⟩
   obtain ⟨g, i, d, f⟩ := E4 (Cx.e d U) g i d f
   refine Xu 3 [(39, .bool (!F)), (40, .bool (!F)), (41, .bool (!F))] (Xw 41 _ R a (fun a => ?_) (fun a => ?_))
   · refine Xu 5 (Un 42 4 ++ [(46, .bool true)]) (Xk (Cn [(13, Vl l c m), (14, Vi ((c).length : Int)), (15, Vi k), (46, .bool true)] (fun u => ?_)))
     refine c_true R (Cs (Xu 1 [(2, Vi 1)] (Xk (Cr (Kb (Kr ?_))))))
     obtain rfl := Sj a
     have n := Sj o
     subst n
     have a := v
     refine Kr (Kb (Kr (Rz (Vi 1) R ?_)))
     obtain rfl := Sj a
     exact ⟨R, f⟩
   refine Yg x 0 4 (Vi h.2.2.2.2) R R (Rf tfld102_4 _) tcell3 i nn R ?_
   obtain ⟨G, q, a⟩ := Bs a
   have p := runoff_in_w h.2.2.2.2 0 1000000000 _ af q
   refine Xv p R ?_
   rintro w ai ⟨rfl, X⟩
   obtain ⟨g, d, f⟩ := E3 (Cx.e d X) g d f
   refine Xu 2 [(45, .bool (!G)), (46, .bool (!G))] (Xk (Cn [(13, Vl l c m), (14, Vi ((c).length : Int)), (15, Vi k), (46, .bool (!G))] (fun u => ?_)))
   refine Ci _ R a (fun a => ?_) (fun a => ?_)
   · refine Cs (Xu 1 [(2, Vi 1)] (Xk (Cr (Kb (Kr ?_)))))
     obtain rfl := Sj a
     have n := Sj o
     subst n
     have a := v
     refine Kr (Kb (Kr (Rz (Vi 1) R ?_)))
     obtain rfl := Sj a
     exact ⟨R, f⟩
   refine Ck (Kl (Kt (Cp (Xu 2 [(47, Vi (i64.wrap (k + 1))), (15, Vi (i64.wrap (k + 1)))] (Xe R ?_)))))
   obtain rfl := Sj a
   obtain ⟨g, d⟩ := E2 (Cx.s d [1]) g d
   have r := r.px []
   exact Kt ⟨(y, i64.wrap (k + 1)), ⟨R, R, R, T0⟩, ⟨o, f, d, r, g⟩, Ns _⟩
 refine Ce (Ke ?_)
 obtain rfl := Sj a
 have n := Sj o
 subst n
 have a := v
 refine Ke (Ki (Kt (c_norm [] T0 (fun u => ?_))))
 refine Cs (Xu 1 [(2, Vi 0)] (Xk (Cr (Rz (Vi 0) R ?_))))
 obtain rfl := Sj a
 exact ⟨R, f⟩
def runoff_retarders_L2 (c : List (Int × Int × Int × Int × Int)) (d : Int × Int) : Option (Step (Int × Int) Int) :=
match d with
| (b, a) =>
(if (decide (a < ((c).length : Int))) = true then
((idx c a).bind fun e =>
(if (decide (e.2.2.2.2 > 0)) = true then
some (.next (i64.wrap (b + 1), i64.wrap (a + 1)))
else
some (.next (b, i64.wrap (a + 1)))))
else
some (.done b))
def runoff_retarders (c : List (Int × Int × Int × Int × Int)) : Option Int :=
((loop (runoff_retarders_L2 c) (0, 0)).bind fun a => match a with
| b => some b)
theorem runoff_retarders_w (m n g z l t) (a : MS l [t]) (e : SlR (eProd eI (eIt4)) l (fl [t]) m n g) (c : runoff_retarders g = some z) : CallVC Tryz.prog 48 [Vl m g n] l fun J r => J = Vi z ∧ Ev [] l r := by
 refine Cw hmx Tryz.func48 R R R ?_
 have k := Ev.refl [] l
 have i := FR.nil l.heap.size
 refine Cs (Xu 1 [(2, Vi 0)] (Xk (Cs (Xu 1 [(3, Vi 0)] (Xk (Cq (Cs (Xu 1 [(6, Vl m g n)] (Xz tsl35 R ?_)))))))))
 refine Xu 1 [(8, Vi 0)] (Xk (Cb ?_))
 obtain ⟨B, v, C⟩ := Bs c
 obtain ⟨p, v⟩ := Lo v
 refine Cl (Lr hmx (σ := Nat × Int × Int) (fun q => match q with | (_, d, f) => [(3, Vi d), (6, Vl m g n), (7, Vi ((g).length : Int)), (8, Vi f)]) (fun q r => match q with | (I, d, f) => loopN (runoff_retarders_L2 g) I (d, f) = some B ∧ Ev [] l r ∧ MS r [t] ∧ FR l.heap.size [] ∧ SlR (eProd eI (eIt4)) r (fl [t]) m n g) (fun q => q.1) (p, 0, 0) ⟨R, R, R, R, T0⟩ ⟨v, k, a, i, e⟩ ?_)
 rintro ⟨p, d, f⟩ w O ⟨o, k, a, i, e⟩
 rcases p with _ | p
 · exact (Lz o).elim
 obtain ⟨K, c, o⟩ := Bs o
 refine Cs (Xu 1 [(9, Bd (f < ((g).length : Int)))] (Xk (Cn [(3, Vi d), (6, Vl m g n), (7, Vi ((g).length : Int)), (8, Vi f), (9, Bd (f < ((g).length : Int)))] (fun w => ?_))))
 refine Cq (Ci _ R c (fun c => ?_) (fun c => ?_))
 · refine Ck (Kt (Cq (Cb (Cs ?_))))
   obtain ⟨h, G, c⟩ := Bs c
   refine Xqa [Vi h.1, Vi h.2.1, Vi h.2.2.1, Vi h.2.2.2.1, Vi h.2.2.2.2] (e.el tsl35) tagg102 G R (fun _ => R) (fun _ => Xj #[Vi 0, Vi 0, Vi 0, Vi 0, Vi 0] R (fun A L y u E => ?_))
   have i := i.box k.size y
   obtain ⟨e, a, k⟩ := E3 (Cx.b a E y u) e a k
   obtain ⟨N, F, D, x⟩ := Sa [Vi h.1, Vi h.2.1, Vi h.2.2.1, Vi h.2.2.2.1, Vi h.2.2.2.2] tagg102 u R R R
   refine Xp F R ?_
   obtain ⟨e, a⟩ := E2 (Cx.j a 0 x) e a
   have k := k.th x i 0
   have u := D
   refine Xk (Cs (Yg A 0 4 (Vi h.2.2.2.2) R R (Rf tfld102_4 _) tcell3 u nn R (Xu 1 [(14, Bd (h.2.2.2.2 > 0))] (Xk (Ci _ R c (fun c => ?_) (fun c => ?_))))))
   · refine Cp (Xu 3 [(15, Vi d), (16, Vi (i64.wrap (d + 1))), (3, Vi (i64.wrap (d + 1)))] (Xe R (Kl (Kt (Cp (Xu 2 [(17, Vi (i64.wrap (f + 1))), (8, Vi (i64.wrap (f + 1)))] (Xe R ?_)))))))
     obtain rfl := Sj c
     obtain ⟨e, a⟩ := E2 (Cx.s a [1]) e a
     have i := i.px []
     exact Kt ⟨(p, i64.wrap (d + 1), i64.wrap (f + 1)), ⟨R, R, R, R, T0⟩, ⟨o, k, a, i, e⟩, Ns _⟩
   refine Ck (Kl (Kt (Cp (Xu 2 [(17, Vi (i64.wrap (f + 1))), (8, Vi (i64.wrap (f + 1)))] (Xe R ?_)))))
   obtain rfl := Sj c
   obtain ⟨e, a⟩ := E2 (Cx.s a [1]) e a
   have i := i.px []
   exact Kt ⟨(p, d, i64.wrap (f + 1)), ⟨R, R, R, R, T0⟩, ⟨o, k, a, i, e⟩, Ns _⟩
 refine Ce (Ke ?_)
 obtain rfl := Sj c
 have H := Sj o
 subst H
 have c := C
 refine Ke (Ki (Kt (Cn [(3, Vi d)] (fun w => ?_))))
 refine Cs (Xu 2 [(18, Vi d), (2, Vi d)] (Xk (Cr (Rz (Vi d) R ?_))))
 obtain rfl := Sj c
 exact ⟨R, k⟩
def runoff_targets_L2 (b : List Int) (c : Int) : Option (Step Int (Unit ⊕ Unit)) :=
match c with
| a =>
(if (decide (a < ((b).length : Int))) = true then
((idx b a).bind fun d =>
((runoff_in d (-1) 20000).bind fun e =>
(if (!e) = true then
some (.done (.inl ()))
else
some (.next (i64.wrap (a + 1))))))
else
some (.done (.inr ())))
def runoff_targets (b : List Int) : Option Bool :=
((loop (runoff_targets_L2 b) 0).bind fun a => match a with
| (.inl _) => some false
| (.inr _) => some true)
theorem runoff_targets_w (g h b v d o) (i : MS d [o]) (k : SlR eI d (fl [o]) g h b) (a : runoff_targets b = some v) : CallVC Tryz.prog 50 [Vl g b h] d fun w n => w = .bool v ∧ Ev [] d n := by
 refine Cw hmx Tryz.func50 R R R ?_
 have f := Ev.refl [] d
 have q := FR.nil d.heap.size
 refine Cs (Xu 1 [(2, .bool false)] (Xk (Cq (Cs (Xu 1 [(5, Vl g b h)] (Xz tsl22 R (Xu 1 [(7, Vi 0)] (Xk (Cb ?_)))))))))
 obtain ⟨x, p, u⟩ := Bs a
 obtain ⟨l, p⟩ := Lo p
 refine Cl (Lr hmx (σ := Nat × Int) (fun m => match m with | (_, c) => [(5, Vl g b h), (6, Vi ((b).length : Int)), (7, Vi c)]) (fun m n => match m with | (C, c) => loopN (runoff_targets_L2 b) C c = some x ∧ Ev [] d n ∧ MS n [o] ∧ FR d.heap.size [] ∧ SlR eI n (fl [o]) g h b) (fun m => m.1) (l, 0) ⟨R, R, R, T0⟩ ⟨p, f, i, q, k⟩ ?_)
 rintro ⟨l, c⟩ t D ⟨j, f, i, q, k⟩
 rcases l with _ | l
 · exact (Lz j).elim
 obtain ⟨F, a, j⟩ := Bs j
 refine Cs (Xu 1 [(8, Bd (c < ((b).length : Int)))] (Xk (Cn [(5, Vl g b h), (6, Vi ((b).length : Int)), (7, Vi c), (8, Bd (c < ((b).length : Int)))] (fun t => ?_))))
 refine Cq (Ci _ R a (fun a => ?_) (fun a => ?_))
 · refine Ck (Kt (Cq (Cb (Cs ?_))))
   obtain ⟨s, B, a⟩ := Bs a
   refine Xq0 (k.el tsl22) tcell3 B R (fun _ => R) (fun _ => Xu 1 [(4, Vi s)] (Xk (Cs (Xu 1 [(11, Vi s)] ?_))))
   obtain ⟨E, A, a⟩ := Bs a
   have y := runoff_in_w s (-1) 20000 _ D A
   refine Xv y R ?_
   rintro w G ⟨rfl, z⟩
   obtain ⟨k, i, f⟩ := E3 (Cx.e i z) k i f
   refine Xu 1 [(13, .bool (!E))] (Xk (Ci _ R a (fun a => ?_) (fun a => ?_)))
   · refine Cs (Xu 1 [(2, .bool false)] (Xk (Cr (Kb (Kr ?_)))))
     obtain rfl := Sj a
     have r := Sj j
     subst r
     have a := u
     refine Kr (Kb (Kr (Rz (.bool false) R ?_)))
     obtain rfl := Sj a
     exact ⟨R, f⟩
   refine Ck (Kl (Kt (Cp (Xu 2 [(14, Vi (i64.wrap (c + 1))), (7, Vi (i64.wrap (c + 1)))] (Xe R ?_)))))
   obtain rfl := Sj a
   exact Kt ⟨(l, i64.wrap (c + 1)), ⟨R, R, R, T0⟩, ⟨j, f, i, q, k⟩, Ns _⟩
 refine Ce (Ke ?_)
 obtain rfl := Sj a
 have r := Sj j
 subst r
 have a := u
 refine Ke (Ki (Kt (c_norm [] T0 (fun t => ?_))))
 refine Cs (Xu 1 [(2, .bool true)] (Xk (Cr (Rz (.bool true) R ?_))))
 obtain rfl := Sj a
 exact ⟨R, f⟩
def runoff_check_L25 (b : List (Int × Int)) (d : Int) : Option (Step Int (Unit ⊕ Unit)) :=
match d with
| a =>
(if (decide (a < ((b).length : Int))) = true then
((idx b a).bind fun c =>
(if (decide (c.1 < (-5000))) = true then
some (.done (.inl ()))
else
(if (decide (c.2 > 10000)) = true then
some (.done (.inl ()))
else
some (.next (i64.wrap (a + 1))))))
else
some (.done (.inr ())))
def runoff_check_L15 (b : List (Int × Int)) (d : Int) : Option (Step Int (Unit ⊕ Unit)) :=
match d with
| a =>
(if (decide (a < ((b).length : Int))) = true then
((idx b a).bind fun c =>
((interval_Valid c.1 c.2).bind fun e =>
(if (!e) = true then
some (.done (.inl ()))
else
some (.next (i64.wrap (a + 1))))))
else
some (.done (.inr ())))
def runoff_check (b : List (Int × Int × Int × Int × Int)) (d : Int) (e : Int) (c : List (Int × Int)) (h : Int) (f : List Int) : Option Int :=
((runoff_Valid b).bind fun g =>
(if (g != 0) = true then
some g
else
((interval_Valid d e).bind fun i =>
(if (!i) = true then
some 1
else
(if (((c).length : Int) != ((b).length : Int)) = true then
some 1
else
((runoff_retarders b).bind fun j =>
(if (((f).length : Int) != j) = true then
some 1
else
((loop (runoff_check_L15 c) 0).bind fun a => match a with
| (.inl _) => some 1
| (.inr _) => ((loop (runoff_check_L25 c) 0).bind fun a => match a with
| (.inl _) => some 2
| (.inr _) => (if (decide (d < 0)) = true then
some 2
else
(if (decide (e > 20000)) = true then
some 2
else
((runoff_in h 0 1000).bind fun k =>
(if (!k) = true then
some 2
else
((runoff_targets f).bind fun l =>
(if (!l) = true then
some 2
else
some 0)))))))))))))))
theorem runoff_check_w (H I v F y m n k Q C D o ar r N) (c : MS r [N]) (x : SlR (eProd eI (eIt4)) r (fl [N]) H I v) (h : SlR (eProd eI eI) r (fl [N]) m n k) (g : SlR eI r (fl [N]) C D o) (a : runoff_check v F y k Q o = some ar) : CallVC Tryz.prog 44 [Vl H v I, .agg #[Vi F, Vi y, Vl m k n, Vi Q, Vl C o D]] r fun K p => K = Vi ar ∧ Ev [] r p := by
 refine Cw hmx Tryz.func44 R R R ?_
 have d := Ev.refl [] r
 have l := FR.nil r.heap.size
 refine Cs (Xo R (fun i aS aq f aG => ?_))
 have l := l.box d.size aq
 obtain ⟨x, h, g, c, d⟩ := E5 (Cx.b c aG aq f) x h g c d
 refine Xu 1 [(4, Vi 0)] (Xk (Cq (Cs (Xu 1 [(10, Vl H v I)] ?_))))
 obtain ⟨S, u, a⟩ := Bs a
 obtain ⟨X, Y⟩ := Kc c [] [0, 1]
 have t := runoff_Valid_w H I v _ aS _ X (x.sub Y) u
 refine Xv t R ?_
 rintro K au ⟨rfl, aH⟩
 obtain ⟨x, h, g, f, c, d⟩ := E6 (Cx.e c aH) x h g f c d
 refine Xu 1 [(5, Vi S)] (Xk (Cs (Xu 2 [(12, Vi S), (13, .bool (S != 0))] (Xk (Ci _ R a (fun a => ?_) (fun a => ?_))))))
 · refine Cs (Xu 2 [(14, Vi S), (4, Vi S)] (Xk (Cr (Kr (Rz (Vi S) R ?_)))))
   obtain rfl := Sj a
   exact ⟨R, d⟩
 refine Ck (Kt (Cq (Cq (Cd [] [(0, false), (1, false), (2, true), (3, false), (4, false), (5, false), (6, false), (7, false), (8, false), (9, false), (10, false), (11, false), (12, false), (13, false), (14, false), (15, false), (16, false), (17, false), (18, false), (19, false)] _ (by kernel_rfl) R ?_))))
 obtain ⟨x, h, g, f, c, d⟩ := E6 (Cx.e c (Ev.drew au)) x h g f c d
 refine Yf (Vp i 0) (Vp i 0) R (Rf tfld53_0 _) (Yl _ _ R (Ra 0 [Vi F, Vi y] tagg39 f nn R) ?_)
 obtain ⟨av, u, a⟩ := Bs a
 have t := interval_Valid_w F y _ (au).drew u
 refine Xv t R ?_
 rintro K aN ⟨rfl, aA⟩
 obtain ⟨x, h, g, f, c, d⟩ := E6 (Cx.e c aA) x h g f c d
 refine Xu 2 [(18, .bool (!av)), (19, .bool (!av))] (Xw 19 _ R a (fun a => ?_) (fun a => ?_))
 · refine Xu 15 (Un 20 6 ++ [(26, .bool true), (27, .bool true)] ++ Un 28 6 ++ [(34, .bool true)]) (Xk (Cn [(3, Vp i 0), (34, .bool true)] (fun q => ?_)))
   refine c_true R (Cs (Xu 1 [(4, Vi 1)] (Xk (Cr (Kr (Rz (Vi 1) R ?_))))))
   obtain rfl := Sj a
   exact ⟨R, d⟩
 refine Yg i 0 2 (Vl m k n) R R (Rf tfld53_1 _) tcell49 f nn R (Xz tsl49 R (Xu 1 [(23, Vl H v I)] (Xz tsl35 R (Xu 3 [(25, .bool (((k).length : Int) != ((v).length : Int))), (26, .bool (((k).length : Int) != ((v).length : Int))), (27, .bool (((k).length : Int) != ((v).length : Int)))] (Xw 27 _ R a (fun a => ?_) (fun a => ?_))))))
 · refine Xu 7 (Un 28 6 ++ [(34, .bool true)]) (Xk (Cn [(3, Vp i 0), (34, .bool true)] (fun q => ?_)))
   refine c_true R (Cs (Xu 1 [(4, Vi 1)] (Xk (Cr (Kr (Rz (Vi 1) R ?_))))))
   obtain rfl := Sj a
   exact ⟨R, d⟩
 refine Yg i 0 4 (Vl C o D) R R (Rf tfld53_3 _) tcell22 f nn R (Xz tsl22 R (Xu 1 [(31, Vl H v I)] ?_))
 obtain ⟨ag, u, a⟩ := Bs a
 obtain ⟨X, Y⟩ := Kc c [] [0, 1]
 have t := runoff_retarders_w H I v _ aN _ X (x.sub Y) u
 refine Xc 48 #[] #[] _ _ R R R R t ?_
 rintro K a1 ⟨rfl, al⟩
 refine ⟨.inr al, ?_⟩
 obtain ⟨h, g, f, c, d⟩ := E5 (Cx.e c al) h g f c d
 refine Xu 2 [(33, .bool (((o).length : Int) != ag)), (34, .bool (((o).length : Int) != ag))] (Xk (Cn [(3, Vp i 0), (34, .bool (((o).length : Int) != ag))] (fun q => ?_)))
 refine Ci _ R a (fun a => ?_) (fun a => ?_)
 · refine Cs (Xu 1 [(4, Vi 1)] (Xk (Cr (Kr (Rz (Vi 1) R ?_)))))
   obtain rfl := Sj a
   exact ⟨R, d⟩
 refine Ck (Kt (Cq (Cs (Yg i 0 2 (Vl m k n) R R (Rf tfld53_1 _) tcell49 f nn R (Xz tsl49 R (Xu 1 [(38, Vi 0)] (Xk (Cb ?_))))))))
 obtain ⟨aw, ad, ak⟩ := Bs a
 obtain ⟨Z, ad⟩ := Lo ad
 refine Cl (Lr hmx (σ := Nat × Int) (fun w => match w with | (_, z) => [(3, Vp i 0), (36, Vl m k n), (37, Vi ((k).length : Int)), (38, Vi z)]) (fun w p => match w with | (af, z) => loopN (runoff_check_L15 k) af z = some aw ∧ Ev [] r p ∧ (fun L => MS p L ∧ FR r.heap.size [[i]] ∧ SlR (eProd eI eI) p (fl L) m n k ∧ SlR eI p (fl L) C D o ∧ p.heap[i]? = some (.cells #[Vi F, Vi y, Vl m k n, Vi Q, Vl C o D] 53 (0, 0))) [[i], N]) (fun w => w.1) (Z, 0) ⟨R, R, R, R, T0⟩ ⟨ad, d, c, l, h, g, f⟩ ?_)
 rintro ⟨Z, z⟩ q a7 ⟨O, d, c, l, h, g, f⟩
 rcases Z with _ | Z
 · exact (Lz O).elim
 obtain ⟨aZ, a, O⟩ := Bs O
 refine Cs (Xu 1 [(39, Bd (z < ((k).length : Int)))] (Xk (Cn [(3, Vp i 0), (36, Vl m k n), (37, Vi ((k).length : Int)), (38, Vi z), (39, Bd (z < ((k).length : Int)))] (fun q => ?_))))
 refine Cq (Ci _ R a (fun a => ?_) (fun a => ?_))
 · refine Ck (Kt (Cq (Cb (Cs ?_))))
   obtain ⟨G, aK, a⟩ := Bs a
   refine Xqa [Vi G.1, Vi G.2] (h.el tsl49) tagg39 aK R (fun _ => R) (fun _ => Xj #[Vi 0, Vi 0] R (fun aY a2 ao ab aB => ?_))
   have l := l.box d.size ao
   obtain ⟨f, h, g, c, d⟩ := E5 (Cx.b c aB ao ab) f h g c d
   obtain ⟨aO, aI, ay, am⟩ := Sa [Vi G.1, Vi G.2] tagg39 ab R R R
   refine Xp aI R ?_
   obtain ⟨f, h, g, c⟩ := E4 (Cx.j c 0 am) f h g c
   have d := d.th am l 0
   have ab := ay
   refine Xk (Cs (Yl _ _ R (Ra 0 [Vi G.1, Vi G.2] tagg39 ab nn R) ?_))
   obtain ⟨aX, u, a⟩ := Bs a
   have t := interval_Valid_w G.1 G.2 _ aO u
   refine Xv t R ?_
   rintro K a3 ⟨rfl, aC⟩
   obtain ⟨f, h, g, c, d⟩ := E5 (Cx.e c aC) f h g c d
   refine Xu 1 [(44, .bool (!aX))] (Xk (Ci _ R a (fun a => ?_) (fun a => ?_)))
   · refine Cs (Xu 1 [(4, Vi 1)] (Xk (Cr (Kb (Kr ?_)))))
     obtain rfl := Sj a
     have E := Sj O
     subst E
     have a := ak
     refine Kr (Kb (Kr (Rz (Vi 1) R ?_)))
     obtain rfl := Sj a
     exact ⟨R, d⟩
   refine Ck (Kl (Kt (Cp (Xu 2 [(45, Vi (i64.wrap (z + 1))), (38, Vi (i64.wrap (z + 1)))] (Xe R ?_)))))
   obtain rfl := Sj a
   obtain ⟨h, g, c⟩ := E3 (Cx.s c [1, 2]) h g c
   have l := l.px [1]
   exact Kt ⟨(Z, i64.wrap (z + 1)), ⟨R, R, R, R, T0⟩, ⟨O, d, c, l, h, g, f⟩, Ns _⟩
 refine Ce (Ke ?_)
 obtain rfl := Sj a
 have E := Sj O
 subst E
 have a := ak
 refine Ke (Ki (Kt (Cn [(3, Vp i 0)] (fun q => ?_))))
 refine Cq (Cs (Yg i 0 2 (Vl m k n) R R (Rf tfld53_1 _) tcell49 f nn R (Xz tsl49 R (Xu 1 [(49, Vi 0)] (Xk (Cb ?_))))))
 obtain ⟨ax, ae, ac⟩ := Bs a
 obtain ⟨aa, ae⟩ := Lo ae
 refine Cl (Lr hmx (σ := Nat × Int) (fun w => match w with | (_, A) => [(3, Vp i 0), (47, Vl m k n), (48, Vi ((k).length : Int)), (49, Vi A)]) (fun w p => match w with | (af, A) => loopN (runoff_check_L25 k) af A = some ax ∧ Ev [] r p ∧ (fun L => MS p L ∧ FR r.heap.size [[i]] ∧ SlR (eProd eI eI) p (fl L) m n k ∧ SlR eI p (fl L) C D o ∧ p.heap[i]? = some (.cells #[Vi F, Vi y, Vl m k n, Vi Q, Vl C o D] 53 (0, 0))) [[i], N]) (fun w => w.1) (aa, 0) ⟨R, R, R, R, T0⟩ ⟨ae, d, c, l, h, g, f⟩ ?_)
 rintro ⟨aa, A⟩ q aU ⟨J, d, c, l, h, g, f⟩
 rcases aa with _ | aa
 · exact (Lz J).elim
 obtain ⟨a0, a, J⟩ := Bs J
 refine Cs (Xu 1 [(50, Bd (A < ((k).length : Int)))] (Xk (Cn [(3, Vp i 0), (47, Vl m k n), (48, Vi ((k).length : Int)), (49, Vi A), (50, Bd (A < ((k).length : Int)))] (fun q => ?_))))
 refine Cq (Ci _ R a (fun a => ?_) (fun a => ?_))
 · refine Ck (Kt (Cq (Cb (Cs ?_))))
   obtain ⟨B, aL, a⟩ := Bs a
   refine Xqa [Vi B.1, Vi B.2] (h.el tsl49) tagg39 aL R (fun _ => R) (fun _ => Xj #[Vi 0, Vi 0] R (fun aj a4 ap U aD => ?_))
   have l := l.box d.size ap
   obtain ⟨f, h, g, c, d⟩ := E5 (Cx.b c aD ap U) f h g c d
   obtain ⟨a5, aJ, az, an⟩ := Sa [Vi B.1, Vi B.2] tagg39 U R R R
   refine Xp aJ R ?_
   obtain ⟨f, h, g, c⟩ := E4 (Cx.j c 0 an) f h g c
   have d := d.th an l 0
   have U := az
   refine Xk (Cs (Yg aj 0 0 (Vi B.1) R R (Rf tfld39_0 _) tcell3 U nn R (Xu 2 [(55, Bd (B.1 < (-5000))), (56, Bd (B.1 < (-5000)))] (Xw 56 _ R a (fun a => ?_) (fun a => ?_)))))
   · refine Xu 4 [(57, U0), (58, U0), (59, U0), (60, .bool true)] (Xk (c_true R (Cs (Xu 1 [(4, Vi 2)] (Xk (Cr (Kb (Kr ?_))))))))
     obtain rfl := Sj a
     have E := Sj J
     subst E
     have a := ac
     refine Kr (Kb (Kr (Rz (Vi 2) R ?_)))
     obtain rfl := Sj a
     exact ⟨R, d⟩
   refine Yg aj 0 1 (Vi B.2) R R (Rf tfld39_1 _) tcell3 U nn R (Xu 2 [(59, Bd (B.2 > 10000)), (60, Bd (B.2 > 10000))] (Xk (Ci _ R a (fun a => ?_) (fun a => ?_))))
   · refine Cs (Xu 1 [(4, Vi 2)] (Xk (Cr (Kb (Kr ?_)))))
     obtain rfl := Sj a
     have E := Sj J
     subst E
     have a := ac
     refine Kr (Kb (Kr (Rz (Vi 2) R ?_)))
     obtain rfl := Sj a
     exact ⟨R, d⟩
   refine Ck (Kl (Kt (Cp (Xu 2 [(61, Vi (i64.wrap (A + 1))), (49, Vi (i64.wrap (A + 1)))] (Xe R ?_)))))
   obtain rfl := Sj a
   obtain ⟨h, g, c⟩ := E3 (Cx.s c [1, 2]) h g c
   have l := l.px [1]
   exact Kt ⟨(aa, i64.wrap (A + 1)), ⟨R, R, R, R, T0⟩, ⟨J, d, c, l, h, g, f⟩, Ns _⟩
 refine Ce (Ke ?_)
 obtain rfl := Sj a
 have E := Sj J
 subst E
 have a := ac
 refine Ke (Ki (Kt (Cn [(3, Vp i 0)] (fun q => ?_))))
 refine Cq (Cs (Yf (Vp i 0) (Vp i 0) R (Rf tfld53_0 _) (Yg i 0 0 (Vi F) R R (Rf tfld39_0 _) tcell3 f nn R (Xu 2 [(65, Bd (F < 0)), (66, Bd (F < 0))] (Xw 66 _ R a (fun a => ?_) (fun a => ?_))))))
 · refine Xu 17 (Un 67 4 ++ [(71, .bool true), (72, .bool true)] ++ Un 73 4 ++ [(77, .bool true), (78, .bool true)] ++ Un 79 4 ++ [(83, .bool true)]) (Xk (Cn [(83, .bool true)] (fun q => ?_)))
   refine c_true R (Cs (Xu 1 [(4, Vi 2)] (Xk (Cr (Kr (Rz (Vi 2) R ?_))))))
   obtain rfl := Sj a
   exact ⟨R, d⟩
 refine Yf (Vp i 0) (Vp i 0) R (Rf tfld53_0 _) (Yg i 0 1 (Vi y) R R (Rf tfld39_1 _) tcell3 f nn R (Xu 3 [(70, Bd (y > 20000)), (71, Bd (y > 20000)), (72, Bd (y > 20000))] (Xw 72 _ R a (fun a => ?_) (fun a => ?_))))
 · refine Xu 11 (Un 73 4 ++ [(77, .bool true), (78, .bool true)] ++ Un 79 4 ++ [(83, .bool true)]) (Xk (Cn [(83, .bool true)] (fun q => ?_)))
   refine c_true R (Cs (Xu 1 [(4, Vi 2)] (Xk (Cr (Kr (Rz (Vi 2) R ?_))))))
   obtain rfl := Sj a
   exact ⟨R, d⟩
 refine Yg i 0 3 (Vi Q) R R (Rf tfld53_2 _) tcell3 f nn R ?_
 obtain ⟨ah, u, a⟩ := Bs a
 have t := runoff_in_w Q 0 1000 _ aU u
 refine Xv t R ?_
 rintro K aQ ⟨rfl, aE⟩
 obtain ⟨f, g, c, d⟩ := E4 (Cx.e c aE) f g c d
 refine Xu 3 [(76, .bool (!ah)), (77, .bool (!ah)), (78, .bool (!ah))] (Xw 78 _ R a (fun a => ?_) (fun a => ?_))
 · refine Xu 5 (Un 79 4 ++ [(83, .bool true)]) (Xk (Cn [(83, .bool true)] (fun q => ?_)))
   refine c_true R (Cs (Xu 1 [(4, Vi 2)] (Xk (Cr (Kr (Rz (Vi 2) R ?_))))))
   obtain rfl := Sj a
   exact ⟨R, d⟩
 refine Yg i 0 4 (Vl C o D) R R (Rf tfld53_3 _) tcell22 f nn R ?_
 obtain ⟨ai, u, a⟩ := Bs a
 obtain ⟨X, Y⟩ := Kc c [] [0, 1]
 have t := runoff_targets_w C D o _ aQ _ X (g.sub Y) u
 refine Xv t R ?_
 rintro K a6 ⟨rfl, aF⟩
 have d := E1 (Cx.e c aF) d
 refine Xu 2 [(82, .bool (!ai)), (83, .bool (!ai))] (Xk (Cn [(83, .bool (!ai))] (fun q => ?_)))
 refine Ci _ R a (fun a => ?_) (fun a => ?_)
 · refine Cs (Xu 1 [(4, Vi 2)] (Xk (Cr (Kr (Rz (Vi 2) R ?_)))))
   obtain rfl := Sj a
   exact ⟨R, d⟩
 refine Ck (Kt (Cs (Xu 1 [(4, Vi 0)] (Xk (Cr (Rz (Vi 0) R ?_))))))
 obtain rfl := Sj a
 exact ⟨R, d⟩
def runoff_gain (f : Int) (a : Int) (b : Int) (g : Int) (h : Int) (c : Int) : Option (Int × Int) :=
((interval_Floor (i64.wrap ((i64.wrap (19620 * (i64.wrap (b - c)))) * a)) 100000).bind fun d =>
((interval_Ceil (i64.wrap ((i64.wrap (19620 * (i64.wrap (b - c)))) * a)) 100000).bind fun e =>
some (d.1, e.1)))
theorem runoff_gain_w (o c a p q b j l) (g : runoff_gain o c a p q b = some j) : CallVC Tryz.prog 52 [.agg #[Vi o, Vi c, Vi a, Vi p, Vi q], Vi b] l fun k u => k = .tuple #[Vi j.1, Vi j.2] ∧ Ev [] l u := by
 refine Cw hmx Tryz.func52 R R R ?_
 have f := Ev.refl [] l
 refine Cs (Xo R (fun m v y n r => ?_))
 have f := f.ext r
 refine Xu 2 [(4, Vi 0), (5, Vi 0)] (Xk (Cs (Yg m 0 2 (Vi a) R R (Rf tfld102_2 _) tcell3 n nn R (Xu 3 [(9, Vi b), (10, Vi (i64.wrap (a - b))), (11, Vi (i64.wrap (19620 * (i64.wrap (a - b)))))] (Yg m 0 1 (Vi c) R R (Rf tfld102_1 _) tcell3 n nn R (Xu 2 [(14, Vi (i64.wrap ((i64.wrap (19620 * (i64.wrap (a - b)))) * c))), (6, Vi (i64.wrap ((i64.wrap (19620 * (i64.wrap (a - b)))) * c)))] (Xk ?_)))))))
 refine Cs (Xu 1 [(16, Vi (i64.wrap ((i64.wrap (19620 * (i64.wrap (a - b)))) * c)))] ?_)
 obtain ⟨d, i, g⟩ := Bs g
 have h := interval_Floor_w (i64.wrap ((i64.wrap (19620 * (i64.wrap (a - b)))) * c)) 100000 _ v i
 refine Xv h R ?_
 rintro k w ⟨rfl, s⟩
 have f := f.ext s
 refine Xu 4 [(15, .tuple #[Vi d.1, Vi d.2]), (18, Vi d.1), (19, Vi d.2), (4, Vi d.1)] (Xk (Cs (Xu 1 [(21, Vi (i64.wrap ((i64.wrap (19620 * (i64.wrap (a - b)))) * c)))] ?_)))
 obtain ⟨e, i, g⟩ := Bs g
 have h := interval_Ceil_w (i64.wrap ((i64.wrap (19620 * (i64.wrap (a - b)))) * c)) 100000 _ w i
 refine Xv h R ?_
 rintro k z ⟨rfl, t⟩
 have f := f.ext t
 refine Xu 4 [(20, .tuple #[Vi e.1, Vi e.2]), (23, Vi e.1), (24, Vi e.2), (5, Vi e.1)] (Xk (Cn [(4, Vi d.1), (5, Vi e.1)] (fun x => ?_)))
 refine Cs (Xu 4 [(25, Vi d.1), (26, Vi e.1), (4, Vi d.1), (5, Vi e.1)] (Xk (Cr (Rr (Rv [Vi d.1, Vi e.1] ⟨R, R, T0⟩ ?_)))))
 obtain rfl := Sj g
 exact ⟨R, f⟩
def runoff_roots (a : Int) : Option (Int × Int) :=
((interval_Root a a).bind fun b =>
some (b.1.1, b.1.2))
theorem runoff_roots_w (c h e) (f : runoff_roots c = some h) : CallVC Tryz.prog 51 [Vi c] e fun j t => j = .tuple #[Vi h.1, Vi h.2] ∧ Ev [] e t := by
 refine Cw hmx Tryz.func51 R R R ?_
 have b := Ev.refl [] e
 have g := FR.nil e.heap.size
 refine Cs (Xu 2 [(2, Vi 0), (3, Vi 0)] (Xk (Cs (Xu 2 [(7, Vi c), (8, Vi c)] (Xg (.agg #[Vi c, Vi c]) R ?_)))))
 obtain ⟨a, s, f⟩ := Bs f
 have m := interval_Root_w c c _ e s
 refine Xv m R ?_
 rintro j u ⟨rfl, n⟩
 have b := b.ext n
 refine Xu 3 [(6, .tuple #[.agg #[Vi a.1.1, Vi a.1.2], Vi a.2]), (11, .agg #[Vi a.1.1, Vi a.1.2]), (12, Vi a.2)] (Xj #[Vi 0, Vi 0] R (fun i v q d o => ?_))
 have g := g.box b.size q
 have b := b.ext o
 obtain ⟨k, r, l, p⟩ := Sa [Vi a.1.1, Vi a.1.2] tagg39 d R R R
 refine Xp r R ?_
 have b := b.th p g 0
 have d := l
 refine Xu 1 [(5, Vi a.2)] (Xk (Cq (Cd [] [(0, false), (1, false), (2, false), (3, false), (4, false), (5, false)] _ (by kernel_rfl) R ?_)))
 have d := (Ev.drew k).box d nn
 have b := b.ext (Ev.drew k)
 refine Yg i 0 0 (Vi a.1.1) R R (Rf tfld39_0 _) tcell3 d nn R (Yg i 0 1 (Vi a.1.2) R R (Rf tfld39_1 _) tcell3 d nn R (Xu 2 [(2, Vi a.1.1), (3, Vi a.1.2)] (Xk (Cr (Rr (Rv [Vi a.1.1, Vi a.1.2] ⟨R, R, T0⟩ ?_))))))
 obtain rfl := Sj f
 exact ⟨R, b⟩
def runoff_state_roll_J27 (d : Int) (i : Int) (j : Int) (a : Int) (k : Int × Int) (h : Int) (b : Int × Int) (e : Int × Int) (c : Int × Int) (f : Int × Int) (g : Bool) : Option (Bool × Int × Int × Int × Int × Bool) :=
(if g = true then
some (true, if 1000000000 < (i64.wrap (d + (i64.wrap (Int.tdiv (i64.wrap (2000 * a)) (i64.wrap (e.2 + f.2)))))) then 1000000000 else (i64.wrap (d + (i64.wrap (Int.tdiv (i64.wrap (2000 * a)) (i64.wrap (e.2 + f.2)))))), 1000000000, h, i64.wrap (j + k.2), g)
else
(if i64.wrap (b.1 + c.1) ≠ 0 then
some (true, if 1000000000 < (i64.wrap (d + (i64.wrap (Int.tdiv (i64.wrap (2000 * a)) (i64.wrap (e.2 + f.2)))))) then 1000000000 else (i64.wrap (d + (i64.wrap (Int.tdiv (i64.wrap (2000 * a)) (i64.wrap (e.2 + f.2)))))), if 1000000000 < (i64.wrap (i + (i64.wrap (Int.tdiv (i64.wrap ((i64.wrap ((i64.wrap ((i64.wrap (2000 * a)) + b.1)) + c.1)) - 1)) (i64.wrap (b.1 + c.1)))))) then 1000000000 else (i64.wrap (i + (i64.wrap (Int.tdiv (i64.wrap ((i64.wrap ((i64.wrap ((i64.wrap (2000 * a)) + b.1)) + c.1)) - 1)) (i64.wrap (b.1 + c.1)))))), h, i64.wrap (j + k.2), g)
else none))
def runoff_state_roll_J14 (e : Int) (f : Int) (k : Int) (a : Int) (l : Int) (i : Int × Int) (j : Bool) (d : Int) : Option (Bool × Int × Int × Int × Int × Bool) :=
((runoff_roots k).bind fun g =>
((runoff_roots a).bind fun b =>
((runoff_roots d).bind fun h =>
((runoff_roots (i64.wrap (a + i.2))).bind fun c =>
(if ((i64.wrap (b.2 + c.2)) == 0) = true then
some (false, e, f, k, a, j)
else
(if i64.wrap (b.2 + c.2) ≠ 0 then
(if ((i64.wrap (g.1 + h.1)) == 0) = true then
runoff_state_roll_J27 e f a l i d g b h c true
else
runoff_state_roll_J27 e f a l i d g b h c j)
else none))))))
def runoff_state_roll (d : Int) (e : Int) (a : Int) (b : Int) (g : Bool) (h : Int) (c : Int) (i : Int) (j : Int) (k : Int) (m : Int) (n : Int) : Option (Bool × Int × Int × Int × Int × Bool) :=
((runoff_gain h c i j k n).bind fun l =>
((runoff_gain h c i j k m).bind fun f =>
(if (decide ((i64.wrap (b + f.2)) < 0)) = true then
some (false, d, e, a, b, g)
else
(if (decide ((i64.wrap (a + l.1)) < 0)) = true then
runoff_state_roll_J14 d e a b c f true 0
else
runoff_state_roll_J14 d e a b c f g (i64.wrap (a + l.1))))))
theorem runoff_state_roll_w (a q t v m an E h F G H ai aj D B M) (c : MS B [[a], M]) (b : B.heap[a]? = some (.cells #[Vi q, Vi t, Vi v, Vi m, .bool an] 114 (0, 0))) (e : runoff_state_roll q t v m an E h F G H ai aj = some D) : CallVC Tryz.prog 45 [Vp a 0, .agg #[Vi E, Vi h, Vi F, Vi G, Vi H], .agg #[Vi ai, Vi aj]] B fun K w => K = .bool D.1 ∧ Ev [a] B w ∧ w.heap[a]? = some (.cells #[Vi D.2.1, Vi D.2.2.1, Vi D.2.2.2.1, Vi D.2.2.2.2.1, .bool D.2.2.2.2.2] 114 (0, 0)) := by
 refine Cw hmx Tryz.func45 R R R ?_
 have d := Ev.refl [a] B
 have p := FR.nil B.heap.size
 refine Cs (Xo R (fun r a7 au f am => ?_))
 have b := am.box b nn
 have c := c.box am au f
 have p := p.box d.size au
 have d := d.ext am
 refine Xo R (fun ao a0 av N ag => ?_)
 have b := ag.box b nn
 have f := ag.box f nn
 have c := c.box ag av N
 have p := p.box d.size av
 have d := d.ext ag
 refine Xu 1 [(6, .bool false)] (Xk (Cs (Yl _ _ R (Ra 0 [Vi E, Vi h, Vi F, Vi G, Vi H] tagg102 f nn R) (Yg ao 0 1 (Vi aj) R R (Rf tfld39_1 _) tcell3 N nn R ?_))))
 obtain ⟨x, A, e⟩ := Bs e
 have y := runoff_gain_w E h F G H aj _ a0 A
 refine Xv y R ?_
 rintro K a1 ⟨rfl, Y⟩
 have b := Y.box b nn
 have f := Y.box f nn
 have N := Y.box N nn
 have c := c.ev Y
 have d := d.ext Y
 refine Xu 5 [(20, .tuple #[Vi x.1, Vi x.2]), (25, Vi x.1), (26, Vi x.2), (7, Vi x.1), (8, Vi x.2)] (Xk (Cs (Yl _ _ R (Ra 0 [Vi E, Vi h, Vi F, Vi G, Vi H] tagg102 f nn R) (Yg ao 0 0 (Vi ai) R R (Rf tfld39_0 _) tcell3 N nn R ?_))))
 obtain ⟨n, A, e⟩ := Bs e
 have y := runoff_gain_w E h F G H ai _ a1 A
 refine Xv y R ?_
 rintro K ak ⟨rfl, ah⟩
 have b := ah.box b nn
 have f := ah.box f nn
 have c := c.ev ah
 have d := d.ext ah
 refine Xu 5 [(27, .tuple #[Vi n.1, Vi n.2]), (32, Vi n.1), (33, Vi n.2), (9, Vi n.1), (10, Vi n.2)] (Xk (Cq (Cd [] [(0, false), (1, false), (2, false), (3, false), (4, false), (5, false), (6, false), (7, false), (8, false), (9, false), (10, false), (11, false), (12, false), (13, false), (14, false), (15, false), (16, true)] _ (by kernel_rfl) R ?_)))
 have b := (Ev.drew ak).box b nn
 have f := (Ev.drew ak).box f nn
 have c := c.ev (Ev.drew ak)
 have d := d.ext (Ev.drew ak)
 refine Xu 2 [(34, Vp a 0), (35, Vp a 0)] (Yf (Vp a 0) (Vp a 2) R (Rf tfld114_1 _) (Yg a 2 2 (Vi v) R R (Rf tfld39_0 _) tcell3 b nn R (Xu 4 [(39, Vi x.1), (40, Vi (i64.wrap (v + x.1))), (41, Vp a 0), (42, Vp a 0)] (Yf (Vp a 0) (Vp a 2) R (Rf tfld114_1 _) (Yg a 2 3 (Vi m) R R (Rf tfld39_1 _) tcell3 b nn R (Xu 2 [(46, Vi n.2), (47, Vi (i64.wrap (m + n.2)))] (Xg (.agg #[Vi (i64.wrap (v + x.1)), Vi (i64.wrap (m + n.2))]) R ?_)))))))
 refine Xa (z := .agg #[Vi 0, Vi 0]) R R (by kernel_rfl) (fun o aU ar g O a3 => ?_)
 replace g : aU.heap[o]? = some (.cells #[Vi 0, Vi 0] 39 (0, 0)) := g
 refine ⟨.inr O, ?_⟩
 have b := O.box b nn
 have f := O.box f nn
 have c := c.box O ar g
 have p := p.box d.size ar
 have d := d.ext O
 obtain ⟨a4, aH, aw, ab⟩ := Sa [Vi (i64.wrap (v + x.1)), Vi (i64.wrap (m + n.2))] tagg39 g R R R
 refine Xp aH R ?_
 have b := ab.box b (c.apart 3 0 R R R _ mem1)
 have f := ab.box f (c.apart 2 0 R R R _ mem1)
 have c := c.ev ab
 have d := d.th ab p 0
 have g := aw
 refine Xk (Cn [(0, Vp a 0), (4, Vp r 0), (11, Vp o 0)] (fun I => ?_))
 refine Cq (Cs (Yg o 0 1 (Vi (i64.wrap (m + n.2))) R R (Rf tfld39_1 _) tcell3 g nn R (Xu 1 [(51, Bd ((i64.wrap (m + n.2)) < 0))] (Xk (Ci _ R e (fun e => ?_) (fun e => ?_))))))
 · refine Cs (Xu 1 [(6, .bool false)] (Xk (Cr (Kr (Rz (.bool false) R ?_)))))
   obtain rfl := Sj e
   exact ⟨R, d, b⟩
 refine Ck (Kt (c_join (σ := Bool × Int) (fun J => match J with | (L, u) => [(0, Vp a 0), (4, Vp r 0), (11, Vp o 0)]) (fun J w => match J with | (L, u) => runoff_state_roll_J14 q t v m h n L u = some D ∧ Ev [a] B w ∧ MS w [[r], [o], [a], M] ∧ FR B.heap.size [[r], [o]] ∧ w.heap[a]? = some (.cells #[Vi q, Vi t, Vi v, Vi m, .bool L] 114 (0, 0)) ∧ w.heap[r]? = some (.cells #[Vi E, Vi h, Vi F, Vi G, Vi H] 102 (0, 0)) ∧ w.heap[o]? = some (.cells #[Vi u, Vi (i64.wrap (m + n.2))] 39 (0, 0))) ?_ ?_))
 · refine Cs (Yg o 0 0 (Vi (i64.wrap (v + x.1))) R R (Rf tfld39_0 _) tcell3 g nn R (Xu 1 [(54, Bd ((i64.wrap (v + x.1)) < 0))] (Xk (Ci _ R e (fun e => ?_) (fun e => ?_)))))
   · refine Cp (Xu 1 [(55, Vp a 0)] (Yf (Vp o 0) (Vp o 0) R (Rf tfld39_0 _) ?_))
     obtain ⟨a5, aI, ax, ac⟩ := Sx 0 (Vi 0) tcell3 g
     refine Xp aI R ?_
     have b := ac.box b (c.apart 3 0 R R R _ mem1)
     have f := ac.box f (c.apart 2 0 R R R _ mem1)
     have c := c.ev ac
     have d := d.th ac p 0
     have g := ax
     refine Xu 1 [(57, Vp a 0)] (Yf (Vp a 0) (Vp a 4) R (Rf tfld114_2 _) ?_)
     obtain ⟨a6, aJ, ay, ad⟩ := Sx 4 (.bool true) tcell4 b
     refine Xp aJ R ?_
     have f := ad.box f (c.apart 2 3 R R R _ mem1)
     have g := ad.box g (c.apart 0 3 R R R _ mem1)
     have c := c.ev ad
     have d := d.tv ad
     have b := ay
     refine Xe R ?_
     have c := E1 (Cx.s c [2, 0, 3, 4]) c
     have p := p.px [2, 0]
     exact Kt ⟨(true, 0), ⟨R, R, R, T0⟩, e, d, c, p, b, f, g⟩
   refine Ck ?_
   have c := E1 (Cx.s c [2, 0, 3, 4]) c
   have p := p.px [2, 0]
   exact Kt ⟨(an, i64.wrap (v + x.1)), ⟨R, R, R, T0⟩, e, d, c, p, b, f, g⟩
 rintro ⟨L, u⟩ I a2 ⟨e, d, c, p, b, f, g⟩
 refine Cs (Xu 2 [(60, Vp a 0), (61, Vp a 0)] (Yf (Vp a 0) (Vp a 2) R (Rf tfld114_1 _) (Yg a 2 2 (Vi v) R R (Rf tfld39_0 _) tcell3 b nn R ?_)))
 obtain ⟨i, A, e⟩ := Bs e
 have y := runoff_roots_w v _ a2 A
 refine Xv y R ?_
 rintro K aX ⟨rfl, Q⟩
 have b := Q.box b nn
 have f := Q.box f nn
 have g := Q.box g nn
 have c := c.ev Q
 have d := d.ext Q
 refine Xu 5 [(59, .tuple #[Vi i.1, Vi i.2]), (66, Vi i.1), (67, Vi i.2), (12, Vi i.1), (13, Vi i.2)] (Xk (Cn [(0, Vp a 0), (4, Vp r 0), (11, Vp o 0), (12, Vi i.1)] (fun I => ?_)))
 refine Cs (Xu 2 [(69, Vp a 0), (70, Vp a 0)] (Yf (Vp a 0) (Vp a 2) R (Rf tfld114_1 _) (Yg a 2 3 (Vi m) R R (Rf tfld39_1 _) tcell3 b nn R ?_)))
 obtain ⟨k, A, e⟩ := Bs e
 have y := runoff_roots_w m _ aX A
 refine Xv y R ?_
 rintro K aY ⟨rfl, S⟩
 have b := S.box b nn
 have f := S.box f nn
 have g := S.box g nn
 have c := c.ev S
 have d := d.ext S
 refine Xu 5 [(68, .tuple #[Vi k.1, Vi k.2]), (75, Vi k.1), (76, Vi k.2), (14, Vi k.1), (15, Vi k.2)] (Xk (Cs (Yg o 0 0 (Vi u) R R (Rf tfld39_0 _) tcell3 g nn R ?_)))
 obtain ⟨j, A, e⟩ := Bs e
 have y := runoff_roots_w u _ aY A
 refine Xv y R ?_
 rintro K aZ ⟨rfl, U⟩
 have b := U.box b nn
 have f := U.box f nn
 have g := U.box g nn
 have c := c.ev U
 have d := d.ext U
 refine Xu 5 [(77, .tuple #[Vi j.1, Vi j.2]), (81, Vi j.1), (82, Vi j.2), (16, Vi j.1), (17, Vi j.2)] (Xk (Cs (Yg o 0 1 (Vi (i64.wrap (m + n.2))) R R (Rf tfld39_1 _) tcell3 g nn R ?_)))
 obtain ⟨l, A, e⟩ := Bs e
 have y := runoff_roots_w (i64.wrap (m + n.2)) _ aZ A
 refine Xv y R ?_
 rintro K Z ⟨rfl, X⟩
 have b := X.box b nn
 have f := X.box f nn
 have g := X.box g nn
 have c := c.ev X
 have d := d.ext X
 refine Xu 5 [(83, .tuple #[Vi l.1, Vi l.2]), (87, Vi l.1), (88, Vi l.2), (18, Vi l.1), (19, Vi l.2)] (Xk (Cn [(0, Vp a 0), (4, Vp r 0), (11, Vp o 0), (12, Vi i.1), (15, Vi k.2), (16, Vi j.1), (19, Vi l.2)] (fun I => ?_)))
 refine Cq (Cs (Xu 4 [(89, Vi k.2), (90, Vi l.2), (91, Vi (i64.wrap (k.2 + l.2))), (92, .bool ((i64.wrap (k.2 + l.2)) == 0))] (Xk (Ci _ R e (fun e => ?_) (fun e => ?_)))))
 · refine Cs (Xu 1 [(6, .bool false)] (Xk (Cr (Kr (Rz (.bool false) R ?_)))))
   obtain rfl := Sj e
   exact ⟨R, d, b⟩
 refine Ck (Kt (Cq (Cd [] [(0, false), (1, false), (2, false), (3, false), (4, false), (5, false), (6, false), (7, false), (8, false), (9, false), (10, false), (11, false), (12, false), (13, false), (14, false), (15, false), (16, false), (17, false), (18, true)] _ (by kernel_rfl) R ?_)))
 have b := (Ev.drew Z).box b nn
 have f := (Ev.drew Z).box f nn
 have g := (Ev.drew Z).box g nn
 have c := c.ev (Ev.drew Z)
 have d := d.ext (Ev.drew Z)
 refine Xu 3 [(93, Vp a 0), (94, Vp a 0), (95, Vp a 0)] (Yf (Vp a 0) (Vp a 0) R (Rf tfld114_0 _) (Yg a 0 0 (Vi q) R R (Rf tfld39_0 _) tcell3 b nn R (Yg r 0 1 (Vi h) R R (Rf tfld102_1 _) tcell3 f nn R (Xu 4 [(101, Vi (i64.wrap (2000 * h))), (102, Vi k.2), (103, Vi l.2), (104, Vi (i64.wrap (k.2 + l.2)))] (x_binop (Vi (i64.wrap (Int.tdiv (i64.wrap (2000 * h)) (i64.wrap (k.2 + l.2))))) (Vi (i64.wrap (2000 * h))) (Vi (i64.wrap (k.2 + l.2))) R R R R (vb_quo (Gl e)) ?_)))))
 have e := Gr e
 refine Xu 1 [(106, Vi (i64.wrap (q + (i64.wrap (Int.tdiv (i64.wrap (2000 * h)) (i64.wrap (k.2 + l.2)))))))] (x_min (vs := [Vi (i64.wrap (q + (i64.wrap (Int.tdiv (i64.wrap (2000 * h)) (i64.wrap (k.2 + l.2)))))), Vi 1000000000]) (Vi (if 1000000000 < (i64.wrap (q + (i64.wrap (Int.tdiv (i64.wrap (2000 * h)) (i64.wrap (k.2 + l.2)))))) then 1000000000 else (i64.wrap (q + (i64.wrap (Int.tdiv (i64.wrap (2000 * h)) (i64.wrap (k.2 + l.2)))))))) R R R (fun _ _ => R) (Xu 1 [(108, Vp a 0)] (Yf (Vp a 0) (Vp a 0) R (Rf tfld114_0 _) (Yf (Vp a 0) (Vp a 0) R (Rf tfld39_0 _) ?_))))
 obtain ⟨a8, aK, az, ae⟩ := Sx 0 (Vi (if 1000000000 < (i64.wrap (q + (i64.wrap (Int.tdiv (i64.wrap (2000 * h)) (i64.wrap (k.2 + l.2)))))) then 1000000000 else (i64.wrap (q + (i64.wrap (Int.tdiv (i64.wrap (2000 * h)) (i64.wrap (k.2 + l.2)))))))) tcell3 b
 refine Xp aK R ?_
 have f := ae.box f (c.apart 0 2 R R R _ mem1)
 have g := ae.box g (c.apart 1 2 R R R _ mem1)
 have c := c.ev ae
 have d := d.tv ae
 have b := az
 refine Xk (Cn [(0, Vp a 0), (4, Vp r 0), (11, Vp o 0), (12, Vi i.1), (16, Vi j.1)] (fun I => ?_))
 refine c_join (σ := Bool) (fun J => match J with | C => [(0, Vp a 0), (4, Vp r 0), (11, Vp o 0), (12, Vi i.1), (16, Vi j.1)]) (fun J w => match J with | C => runoff_state_roll_J27 q t m h n u i k j l C = some D ∧ Ev [a] B w ∧ MS w [[r], [o], [a], M] ∧ FR B.heap.size [[r], [o]] ∧ w.heap[a]? = some (.cells #[Vi (if 1000000000 < (i64.wrap (q + (i64.wrap (Int.tdiv (i64.wrap (2000 * h)) (i64.wrap (k.2 + l.2)))))) then 1000000000 else (i64.wrap (q + (i64.wrap (Int.tdiv (i64.wrap (2000 * h)) (i64.wrap (k.2 + l.2))))))), Vi t, Vi v, Vi m, .bool C] 114 (0, 0)) ∧ w.heap[r]? = some (.cells #[Vi E, Vi h, Vi F, Vi G, Vi H] 102 (0, 0)) ∧ w.heap[o]? = some (.cells #[Vi u, Vi (i64.wrap (m + n.2))] 39 (0, 0))) ?_ ?_
 · refine Cs (Xu 4 [(111, Vi i.1), (112, Vi j.1), (113, Vi (i64.wrap (i.1 + j.1))), (114, .bool ((i64.wrap (i.1 + j.1)) == 0))] (Xk (Ci _ R e (fun e => ?_) (fun e => ?_))))
   · refine Cp (Xu 2 [(115, Vp a 0), (116, Vp a 0)] (Yf (Vp a 0) (Vp a 4) R (Rf tfld114_2 _) ?_))
     obtain ⟨a9, aL, aA, af⟩ := Sx 4 (.bool true) tcell4 b
     refine Xp aL R ?_
     have f := af.box f (c.apart 0 2 R R R _ mem1)
     have g := af.box g (c.apart 1 2 R R R _ mem1)
     have c := c.ev af
     have d := d.tv af
     have b := aA
     refine Xe R ?_
     exact Kt ⟨true, ⟨R, R, R, R, R, T0⟩, e, d, c, p, b, f, g⟩
   refine Ck ?_
   exact Kt ⟨L, ⟨R, R, R, R, R, T0⟩, e, d, c, p, b, f, g⟩
 rintro C I aa ⟨e, d, c, p, b, f, g⟩
 refine Cq (Cs (Xu 2 [(118, Vp a 0), (119, Vp a 0)] (Yg a 0 4 (.bool C) R R (Rf tfld114_2 _) tcell4 b nn R (Xk (Cn [(0, Vp a 0), (4, Vp r 0), (11, Vp o 0), (12, Vi i.1), (16, Vi j.1), (121, .bool C)] (fun I => ?_))))))
 refine Ci C R e (fun e => ?_) (fun e => ?_)
 · refine Cp (Xu 2 [(122, Vp a 0), (123, Vp a 0)] (Yf (Vp a 0) (Vp a 0) R (Rf tfld114_0 _) (Yf (Vp a 0) (Vp a 1) R (Rf tfld39_1 _) ?_)))
   obtain ⟨ba, aN, aB, ap⟩ := Sx 1 (Vi 1000000000) tcell3 b
   refine Xp aN R ?_
   have g := ap.box g (c.apart 1 2 R R R _ mem1)
   have d := d.tv ap
   have b := aB
   refine Xk (Cs (Xu 1 [(149, Vp a 0)] (Yl _ _ R (Ra 0 [Vi u, Vi (i64.wrap (m + n.2))] tagg39 g nn R) (Xu 1 [(151, Vp a 0)] (Yf (Vp a 0) (Vp a 2) R (Rf tfld114_1 _) ?_)))))
   obtain ⟨bb, aO, aC, aF⟩ := Sb 2 [Vi u, Vi (i64.wrap (m + n.2))] #[Vi (if 1000000000 < (i64.wrap (q + (i64.wrap (Int.tdiv (i64.wrap (2000 * h)) (i64.wrap (k.2 + l.2)))))) then 1000000000 else (i64.wrap (q + (i64.wrap (Int.tdiv (i64.wrap (2000 * h)) (i64.wrap (k.2 + l.2))))))), Vi 1000000000, Vi u, Vi (i64.wrap (m + n.2)), .bool C] tagg39 b R R R
   refine Xp aO R ?_
   have d := d.tv aF
   have b := aC
   refine Xk (Cs (Xu 1 [(6, .bool true)] (Xk (Cr (Rz (.bool true) R ?_)))))
   obtain rfl := Sj e
   exact ⟨R, d, b⟩
 refine Cd [] [(0, false), (1, false), (2, false), (3, false), (4, false), (5, false), (6, false), (7, false), (8, false), (9, false), (10, false), (11, false), (12, false), (13, false), (14, false), (15, false), (16, false), (17, false), (18, false), (19, false), (20, false), (21, false), (22, false), (23, true)] _ (by kernel_rfl) R ?_
 have b := (Ev.drew aa).box b nn
 have f := (Ev.drew aa).box f nn
 have g := (Ev.drew aa).box g nn
 have c := c.ev (Ev.drew aa)
 have d := d.ext (Ev.drew aa)
 refine Xu 3 [(126, Vp a 0), (127, Vp a 0), (128, Vp a 0)] (Yf (Vp a 0) (Vp a 0) R (Rf tfld114_0 _) (Yg a 0 1 (Vi t) R R (Rf tfld39_1 _) tcell3 b nn R (Yg r 0 1 (Vi h) R R (Rf tfld102_1 _) tcell3 f nn R (Xu 9 [(134, Vi (i64.wrap (2000 * h))), (135, Vi i.1), (136, Vi (i64.wrap ((i64.wrap (2000 * h)) + i.1))), (137, Vi j.1), (138, Vi (i64.wrap ((i64.wrap ((i64.wrap (2000 * h)) + i.1)) + j.1))), (139, Vi (i64.wrap ((i64.wrap ((i64.wrap ((i64.wrap (2000 * h)) + i.1)) + j.1)) - 1))), (140, Vi i.1), (141, Vi j.1), (142, Vi (i64.wrap (i.1 + j.1)))] (x_binop (Vi (i64.wrap (Int.tdiv (i64.wrap ((i64.wrap ((i64.wrap ((i64.wrap (2000 * h)) + i.1)) + j.1)) - 1)) (i64.wrap (i.1 + j.1))))) (Vi (i64.wrap ((i64.wrap ((i64.wrap ((i64.wrap (2000 * h)) + i.1)) + j.1)) - 1))) (Vi (i64.wrap (i.1 + j.1))) R R R R (vb_quo (Gl e)) ?_)))))
 have e := Gr e
 refine Xu 1 [(144, Vi (i64.wrap (t + (i64.wrap (Int.tdiv (i64.wrap ((i64.wrap ((i64.wrap ((i64.wrap (2000 * h)) + i.1)) + j.1)) - 1)) (i64.wrap (i.1 + j.1)))))))] (x_min (vs := [Vi (i64.wrap (t + (i64.wrap (Int.tdiv (i64.wrap ((i64.wrap ((i64.wrap ((i64.wrap (2000 * h)) + i.1)) + j.1)) - 1)) (i64.wrap (i.1 + j.1)))))), Vi 1000000000]) (Vi (if 1000000000 < (i64.wrap (t + (i64.wrap (Int.tdiv (i64.wrap ((i64.wrap ((i64.wrap ((i64.wrap (2000 * h)) + i.1)) + j.1)) - 1)) (i64.wrap (i.1 + j.1)))))) then 1000000000 else (i64.wrap (t + (i64.wrap (Int.tdiv (i64.wrap ((i64.wrap ((i64.wrap ((i64.wrap (2000 * h)) + i.1)) + j.1)) - 1)) (i64.wrap (i.1 + j.1)))))))) R R R (fun _ _ => R) (Xu 1 [(146, Vp a 0)] (Yf (Vp a 0) (Vp a 0) R (Rf tfld114_0 _) (Yf (Vp a 0) (Vp a 1) R (Rf tfld39_1 _) ?_))))
 obtain ⟨bc, aQ, aD, aq⟩ := Sx 1 (Vi (if 1000000000 < (i64.wrap (t + (i64.wrap (Int.tdiv (i64.wrap ((i64.wrap ((i64.wrap ((i64.wrap (2000 * h)) + i.1)) + j.1)) - 1)) (i64.wrap (i.1 + j.1)))))) then 1000000000 else (i64.wrap (t + (i64.wrap (Int.tdiv (i64.wrap ((i64.wrap ((i64.wrap ((i64.wrap (2000 * h)) + i.1)) + j.1)) - 1)) (i64.wrap (i.1 + j.1)))))))) tcell3 b
 refine Xp aQ R ?_
 have g := aq.box g (c.apart 1 2 R R R _ mem1)
 have d := d.tv aq
 have b := aD
 refine Xk (Cn [(0, Vp a 0), (11, Vp o 0)] (fun I => ?_))
 refine Cs (Xu 1 [(149, Vp a 0)] (Yl _ _ R (Ra 0 [Vi u, Vi (i64.wrap (m + n.2))] tagg39 g nn R) (Xu 1 [(151, Vp a 0)] (Yf (Vp a 0) (Vp a 2) R (Rf tfld114_1 _) ?_))))
 obtain ⟨bd, aS, aE, aG⟩ := Sb 2 [Vi u, Vi (i64.wrap (m + n.2))] #[Vi (if 1000000000 < (i64.wrap (q + (i64.wrap (Int.tdiv (i64.wrap (2000 * h)) (i64.wrap (k.2 + l.2)))))) then 1000000000 else (i64.wrap (q + (i64.wrap (Int.tdiv (i64.wrap (2000 * h)) (i64.wrap (k.2 + l.2))))))), Vi (if 1000000000 < (i64.wrap (t + (i64.wrap (Int.tdiv (i64.wrap ((i64.wrap ((i64.wrap ((i64.wrap (2000 * h)) + i.1)) + j.1)) - 1)) (i64.wrap (i.1 + j.1)))))) then 1000000000 else (i64.wrap (t + (i64.wrap (Int.tdiv (i64.wrap ((i64.wrap ((i64.wrap ((i64.wrap (2000 * h)) + i.1)) + j.1)) - 1)) (i64.wrap (i.1 + j.1))))))), Vi u, Vi (i64.wrap (m + n.2)), .bool C] tagg39 b R R R
 refine Xp aS R ?_
 have d := d.tv aG
 have b := aE
 refine Xk (Cs (Xu 1 [(6, .bool true)] (Xk (Cr (Rz (.bool true) R ?_)))))
 obtain rfl := Sj e
 exact ⟨R, d, b⟩
def runoff_state_brake (f : Int) (g : Int) (d : Int) (c : Int) (h : Bool) (e : Int) (a : Int) (b : Int) : Option (Int × Int) :=
some (if (i64.wrap ((if (i64.wrap (a - b)) > 0 then (i64.wrap (a - b)) else 0) * (if (i64.wrap (a - b)) > 0 then (i64.wrap (a - b)) else 0))) < d then (i64.wrap ((if (i64.wrap (a - b)) > 0 then (i64.wrap (a - b)) else 0) * (if (i64.wrap (a - b)) > 0 then (i64.wrap (a - b)) else 0))) else d, if (i64.wrap (c - e)) > (if (i64.wrap ((i64.wrap (a + b)) * (i64.wrap (a + b)))) < c then (i64.wrap ((i64.wrap (a + b)) * (i64.wrap (a + b)))) else c) then (i64.wrap (c - e)) else (if (i64.wrap ((i64.wrap (a + b)) * (i64.wrap (a + b)))) < c then (i64.wrap ((i64.wrap (a + b)) * (i64.wrap (a + b)))) else c))
theorem runoff_state_brake_w (c j k g d l f a b m i p) (y : MS i [[c], p]) (e : i.heap[c]? = some (.cells #[Vi j, Vi k, Vi g, Vi d, .bool l] 114 (0, 0))) (q : runoff_state_brake j k g d l f a b = some m) : CallVC Tryz.prog 46 [Vp c 0, Vi f, Vi a, Vi b] i fun x n => x = .tuple #[] ∧ Ev [c] i n ∧ n.heap[c]? = some (.cells #[Vi j, Vi k, Vi m.1, Vi m.2, .bool l] 114 (0, 0)) := by
 refine Cw hmx Tryz.func46 R R R ?_
 have h := Ev.refl [c] i
 refine Cs (Xu 3 [(9, Vi a), (10, Vi b), (11, Vi (i64.wrap (a - b)))] (x_max (vs := [Vi 0, Vi (i64.wrap (a - b))]) (Vi (if (i64.wrap (a - b)) > 0 then (i64.wrap (a - b)) else 0)) R R R (fun _ _ => R) (Xu 1 [(8, Vi (if (i64.wrap (a - b)) > 0 then (i64.wrap (a - b)) else 0))] (Xk (Cs (Xu 3 [(13, Vp c 0), (14, Vp c 0), (15, Vp c 0)] (Yf (Vp c 0) (Vp c 2) R (Rf tfld114_1 _) (Yg c 2 2 (Vi g) R R (Rf tfld39_0 _) tcell3 e nn R ?_))))))))
 refine Xu 3 [(19, Vi (if (i64.wrap (a - b)) > 0 then (i64.wrap (a - b)) else 0)), (20, Vi (if (i64.wrap (a - b)) > 0 then (i64.wrap (a - b)) else 0)), (21, Vi (i64.wrap ((if (i64.wrap (a - b)) > 0 then (i64.wrap (a - b)) else 0) * (if (i64.wrap (a - b)) > 0 then (i64.wrap (a - b)) else 0))))] (x_min (vs := [Vi g, Vi (i64.wrap ((if (i64.wrap (a - b)) > 0 then (i64.wrap (a - b)) else 0) * (if (i64.wrap (a - b)) > 0 then (i64.wrap (a - b)) else 0)))]) (Vi (if (i64.wrap ((if (i64.wrap (a - b)) > 0 then (i64.wrap (a - b)) else 0) * (if (i64.wrap (a - b)) > 0 then (i64.wrap (a - b)) else 0))) < g then (i64.wrap ((if (i64.wrap (a - b)) > 0 then (i64.wrap (a - b)) else 0) * (if (i64.wrap (a - b)) > 0 then (i64.wrap (a - b)) else 0))) else g)) R R R (fun _ _ => R) (Xu 1 [(23, Vp c 0)] (Yf (Vp c 0) (Vp c 2) R (Rf tfld114_1 _) (Yf (Vp c 2) (Vp c 2) R (Rf tfld39_0 _) ?_))))
 obtain ⟨o, v, r, t⟩ := Sx 2 (Vi (if (i64.wrap ((if (i64.wrap (a - b)) > 0 then (i64.wrap (a - b)) else 0) * (if (i64.wrap (a - b)) > 0 then (i64.wrap (a - b)) else 0))) < g then (i64.wrap ((if (i64.wrap (a - b)) > 0 then (i64.wrap (a - b)) else 0) * (if (i64.wrap (a - b)) > 0 then (i64.wrap (a - b)) else 0))) else g)) tcell3 e
 refine Xp v R ?_
 have h := h.tv t
 have e := r
 refine Xk (Cd [] [(0, false), (1, false), (2, false), (3, false), (4, false), (5, false), (6, false), (7, false), (8, false), (9, false), (10, false), (11, false), (12, false), (13, false), (14, false), (15, false), (16, false), (17, false), (18, false), (19, false), (20, false), (21, false), (22, false), (23, false), (24, false), (25, true)] _ (by kernel_rfl) R ?_)
 have e := (Ev.drew o).box e nn
 have h := h.ext (Ev.drew o)
 refine Xu 3 [(26, Vp c 0), (27, Vp c 0), (28, Vp c 0)] (Yf (Vp c 0) (Vp c 2) R (Rf tfld114_1 _) (Yg c 2 3 (Vi d) R R (Rf tfld39_1 _) tcell3 e nn R (Xu 7 [(32, Vi a), (33, Vi b), (34, Vi (i64.wrap (a + b))), (35, Vi a), (36, Vi b), (37, Vi (i64.wrap (a + b))), (38, Vi (i64.wrap ((i64.wrap (a + b)) * (i64.wrap (a + b)))))] (x_min (vs := [Vi d, Vi (i64.wrap ((i64.wrap (a + b)) * (i64.wrap (a + b))))]) (Vi (if (i64.wrap ((i64.wrap (a + b)) * (i64.wrap (a + b)))) < d then (i64.wrap ((i64.wrap (a + b)) * (i64.wrap (a + b)))) else d)) R R R (fun _ _ => R) (Xu 2 [(40, Vp c 0), (41, Vp c 0)] (Yf (Vp c 0) (Vp c 2) R (Rf tfld114_1 _) (Yg c 2 3 (Vi d) R R (Rf tfld39_1 _) tcell3 e nn R ?_)))))))
 refine Xu 2 [(45, Vi f), (46, Vi (i64.wrap (d - f)))] (x_max (vs := [Vi (if (i64.wrap ((i64.wrap (a + b)) * (i64.wrap (a + b)))) < d then (i64.wrap ((i64.wrap (a + b)) * (i64.wrap (a + b)))) else d), Vi (i64.wrap (d - f))]) (Vi (if (i64.wrap (d - f)) > (if (i64.wrap ((i64.wrap (a + b)) * (i64.wrap (a + b)))) < d then (i64.wrap ((i64.wrap (a + b)) * (i64.wrap (a + b)))) else d) then (i64.wrap (d - f)) else (if (i64.wrap ((i64.wrap (a + b)) * (i64.wrap (a + b)))) < d then (i64.wrap ((i64.wrap (a + b)) * (i64.wrap (a + b)))) else d))) R R R (fun _ _ => R) (Xu 1 [(48, Vp c 0)] (Yf (Vp c 0) (Vp c 2) R (Rf tfld114_1 _) (Yf (Vp c 2) (Vp c 3) R (Rf tfld39_1 _) ?_))))
 obtain ⟨z, w, s, u⟩ := Sx 3 (Vi (if (i64.wrap (d - f)) > (if (i64.wrap ((i64.wrap (a + b)) * (i64.wrap (a + b)))) < d then (i64.wrap ((i64.wrap (a + b)) * (i64.wrap (a + b)))) else d) then (i64.wrap (d - f)) else (if (i64.wrap ((i64.wrap (a + b)) * (i64.wrap (a + b)))) < d then (i64.wrap ((i64.wrap (a + b)) * (i64.wrap (a + b)))) else d))) tcell3 e
 refine Xp w R ?_
 have h := h.tv u
 have e := s
 refine Xe R (r_normal (Rv [] T0 ?_))
 obtain rfl := Sj q
 exact ⟨R, h, e⟩
def runoff_Pass_L25 (b : List (Int × Int × Int × Int × Int)) (c : (List ((Int × Int) × (Int × Int) × Bool × Bool))) : Option (Step (List ((Int × Int) × (Int × Int) × Bool × Bool)) (List ((Int × Int) × (Int × Int) × Bool × Bool))) :=
match c with
| a =>
(if (decide (((a).length : Int) ≤ ((b).length : Int))) = true then
(if a.length + ([((0, 0), (0, 0), false, true)] : List ((Int × Int) × (Int × Int) × Bool × Bool)).length ≤ 4294967296 then
some (.next (a ++ ([((0, 0), (0, 0), false, true)] : List ((Int × Int) × (Int × Int) × Bool × Bool))))
else none)
else
some (.done a))
def runoff_Pass_J29 (d : List ((Int × Int) × (Int × Int) × Bool × Bool)) (f : Int) (a : Bool × Int × Int × Int × Int × Bool) (b : Int) (c : Int) (e : Int) : Option (Step (Int × Int × Int × Int × Bool × (List ((Int × Int) × (Int × Int) × Bool × Bool)) × Int × Int) (List ((Int × Int) × (Int × Int) × Bool × Bool))) :=
(if d.length + ([((a.2.1, a.2.2.1), (b, c), a.2.2.2.2.2, false)] : List ((Int × Int) × (Int × Int) × Bool × Bool)).length ≤ 4294967296 then
some (.next (a.2.1, a.2.2.1, b, c, a.2.2.2.2.2, (d ++ ([((a.2.1, a.2.2.1), (b, c), a.2.2.2.2.2, false)] : List ((Int × Int) × (Int × Int) × Bool × Bool))), e, i64.wrap (f + 1)))
else none)
def runoff_Pass_L13 (f : List (Int × Int × Int × Int × Int)) (q : List (Int × Int)) (r : Int) (s : List Int) (t : Int × Int × Int × Int × Bool × (List ((Int × Int) × (Int × Int) × Bool × Bool)) × Int × Int) : Option (Step (Int × Int × Int × Int × Bool × (List ((Int × Int) × (Int × Int) × Bool × Bool)) × Int × Int) (List ((Int × Int) × (Int × Int) × Bool × Bool))) :=
match t with
| (l, m, n, o, p, d, e, c) =>
(if (decide (c < ((f).length : Int))) = true then
((idx f c).bind fun b =>
((idx q c).bind fun g =>
((runoff_state_roll l m n o p b.1 b.2.1 b.2.2.1 b.2.2.2.1 b.2.2.2.2 g.1 g.2).bind fun a =>
(if (!a.1) = true then
((loop (runoff_Pass_L25 f) d).bind fun j => match j with
| k => some (.done k))
else
(if (decide (b.2.2.2.2 > 0)) = true then
((idx s e).bind fun h =>
(if (decide (h ≥ 0)) = true then
((runoff_state_brake a.2.1 a.2.2.1 a.2.2.2.1 a.2.2.2.2.1 a.2.2.2.2.2 b.2.2.2.2 h r).bind fun i =>
runoff_Pass_J29 d c a i.1 i.2 (i64.wrap (e + 1)))
else
runoff_Pass_J29 d c a a.2.2.2.1 a.2.2.2.2.1 (i64.wrap (e + 1))))
else
runoff_Pass_J29 d c a a.2.2.2.1 a.2.2.2.2.1 e)))))
else
some (.done d))
def runoff_Pass (c : List (Int × Int × Int × Int × Int)) (a : Int) (b : Int) (d : List (Int × Int)) (e : Int) (f : List Int) : Option ((List ((Int × Int) × (Int × Int) × Bool × Bool)) × Int) :=
((runoff_check c a b d e f).bind fun g =>
(if (g != 0) = true then
some ([], g)
else
((loop (runoff_Pass_L13 c d e f) (0, 0, i64.wrap (a * a), i64.wrap (b * b), false, ([((0, 0), (i64.wrap (a * a), i64.wrap (b * b)), false, false)] : List ((Int × Int) × (Int × Int) × Bool × Bool)), 0, 0)).bind fun h => match h with
| i => some (i, 0))))
theorem runoff_Pass_w (A B q v w aa ad U af ab ae X aD H E) (a : MS H [E]) (d : SlR (eProd eI (eIt4)) H (fl [E]) A B q) (g : SlR (eProd eI eI) H (fl [E]) aa ad U) (h : SlR eI H (fl [E]) ab ae X) (c : runoff_Pass q v w U af X = some aD) : CallVC Tryz.prog 18 [Vl A q B, .agg #[Vi v, Vi w, Vl aa U ad, Vi af, Vl ab X ae]] H fun aE x => ∃ ak aY, aE = .tuple #[Vl ak aD.1 aY, Vi aD.2] ∧ Ev [] H x ∧ MS x [Bk ak, E] ∧ FR H.heap.size [Bk ak] ∧ OwnS (eProd (eProd eI eI) (eProd (eProd eI eI) (eProd eBool eBool))) 68 x (fl [Bk ak, E]) ak aY aD.1 := by
 refine Cw hmx Tryz.func18 R R R ?_
 have f := Ev.refl [] H
 have n := FR.nil H.heap.size
 refine Cs (Xo R (fun t bN bb m bq => ?_))
 have n := n.box f.size bb
 obtain ⟨d, g, h, a, f⟩ := E5 (Cx.b a bq bb m) d g h a f
 refine Xu 2 [(4, Z0), (5, Vi 0)] (Xk (Cq (Cs (Xu 1 [(13, Vl A q B)] (Yl _ _ R (Ra 0 [Vi v, Vi w, Vl aa U ad, Vi af, Vl ab X ae] tagg53 m nn R) ?_)))))
 obtain ⟨aj, az, c⟩ := Bs c
 obtain ⟨ax, ay⟩ := Kc a [] [0, 1]
 have ar := runoff_check_w A B q v w aa ad U af ab ae X _ bN _ ax (d.sub ay) (g.sub ay) (h.sub ay) az
 refine Xv ar R ?_
 rintro aE b8 ⟨rfl, br⟩
 obtain ⟨d, g, h, m, a, f⟩ := E6 (Cx.e a br) d g h m a f
 refine Xu 1 [(6, Vi aj)] (Xk (Cs (Xu 2 [(16, Vi aj), (17, .bool (aj != 0))] (Xk (Ci _ R c (fun c => ?_) (fun c => ?_))))))
 · refine Cs (Xu 3 [(18, Vi aj), (4, Z0), (5, Vi aj)] (Xk (Cr (Kr (Rr (Rv [Z0, Vi aj] ⟨R, R, T0⟩ ?_))))))
   obtain rfl := Sj c
   have av := a.pick [none, some 1] [Bk none, E] R
   have au := n.pick [none] [Bk none] R
   exact ⟨none, 0, R, f, av, au, OwnS.nil _ _ _ _⟩
 refine Ck (Kt (Cs (Yf (Vp t 0) (Vp t 0) R (Rf tfld53_0 _) (Yg t 0 0 (Vi v) R R (Rf tfld39_0 _) tcell3 m nn R (Yf (Vp t 0) (Vp t 0) R (Rf tfld53_0 _) (Yg t 0 0 (Vi v) R R (Rf tfld39_0 _) tcell3 m nn R (Xu 1 [(25, Vi (i64.wrap (v * v)))] ?_)))))))
 refine Yf (Vp t 0) (Vp t 0) R (Rf tfld53_0 _) (Yg t 0 1 (Vi w) R R (Rf tfld39_1 _) tcell3 m nn R (Yf (Vp t 0) (Vp t 0) R (Rf tfld53_0 _) (Yg t 0 1 (Vi w) R R (Rf tfld39_1 _) tcell3 m nn R (Xu 1 [(32, Vi (i64.wrap (w * w)))] (Xg (.agg #[Vi (i64.wrap (v * v)), Vi (i64.wrap (w * w))]) R (Xg (.agg #[Vi 0, Vi 0, Vi (i64.wrap (v * v)), Vi (i64.wrap (w * w)), .bool false]) R (Xo R (fun i bO bc r bs => ?_))))))))
 have n := n.box f.size bc
 obtain ⟨d, g, h, m, a, f⟩ := E6 (Cx.b a bs bc r) d g h m a f
 refine Xu 1 [(7, Vp i 0)] (Xk (Cn [(0, Vl A q B), (3, Vp t 0), (7, Vp i 0)] (fun Y => ?_)))
 refine Cq (Cd [] [(0, false), (1, false), (2, false), (3, false), (4, false), (5, false), (6, false), (7, false), (8, false), (9, true), (10, false)] _ (by kernel_rfl) R ?_)
 obtain ⟨d, g, h, m, r, a, f⟩ := E7 (Cx.e a (Ev.drew bO)) d g h m r a f
 refine Xu 2 [(36, Vp i 0), (37, Vp i 0)] (Yf (Vp i 0) (Vp i 0) R (Rf tfld114_0 _) (Yl _ _ R (Ra 0 [Vi 0, Vi 0] tagg39 r nn R) (Xu 2 [(40, Vp i 0), (41, Vp i 0)] (Yf (Vp i 0) (Vp i 2) R (Rf tfld114_1 _) (Yl _ _ R (Ra 2 [Vi (i64.wrap (v * v)), Vi (i64.wrap (w * w))] tagg39 r nn R) (Xg (.agg #[Vi 0, Vi 0, Vi (i64.wrap (v * v)), Vi (i64.wrap (w * w)), .bool false, .bool false]) R (Xh #[Vi 0, Vi 0, Vi (i64.wrap (v * v)), Vi (i64.wrap (w * w)), .bool false, .bool false] 68 R (fun bS b1 bv bj a1 => ?_))))))))
 obtain ⟨aG, bh, bE, a7⟩ := Ol (e := (eProd (eProd eI eI) (eProd (eProd eI eI) (eProd eBool eBool)))) bv bj 1 [((0, 0), (i64.wrap (v * v), i64.wrap (w * w)), false, false)]
 obtain ⟨d, g, h, m, r, a⟩ := E6 (Cx.p a a1 a7) d g h m r a
 have n := n.push (fun b aq => Nat.le_trans f.size (a7 b aq).1)
 have f := f.ext a1
 have k := bE (fl [Bk aG, [i], [t], E])
 rw [← bh]
 refine Xu 1 [(8, Vl aG (([((0, 0), (i64.wrap (v * v), i64.wrap (w * w)), false, false)] : List ((Int × Int) × (Int × Int) × Bool × Bool))) 1)] (Xk (Cs (Xu 1 [(9, Vi 0)] (Xk (Cq (Cs (Xu 1 [(46, Vl A q B)] (Xz tsl35 R (Xu 1 [(48, Vi 0)] ?_)))))))))
 refine Xk (Cb ?_)
 obtain ⟨d, g, h, k, a⟩ := E5 (Cx.s a [2, 1, 0, 3]) d g h k a
 have n := n.px [2, 1, 0]
 obtain ⟨bf, aL, a0⟩ := Bs c
 obtain ⟨aB, aL⟩ := Lo aL
 refine Cl (Lr hmx (σ := Nat × Int × Int × Int × Int × Bool × (List ((Int × Int) × (Int × Int) × Bool × Bool)) × Int × Int × Option Addr × Nat) (fun K => match K with | (_, al, am, an, ao, ap, D, I, G, z, J) => [(0, Vl A q B), (3, Vp t 0), (7, Vp i 0), (8, Vl z D J), (9, Vi I), (46, Vl A q B), (47, Vi ((q).length : Int)), (48, Vi G)]) (fun K x => match K with | (aU, al, am, an, ao, ap, D, I, G, z, J) => loopN (runoff_Pass_L13 q U af X) aU (al, am, an, ao, ap, D, I, G) = some bf ∧ Ev [] H x ∧ (fun L => MS x L ∧ FR H.heap.size [[t], [i], Bk z] ∧ SlR (eProd eI (eIt4)) x (fl L) A B q ∧ SlR (eProd eI eI) x (fl L) aa ad U ∧ SlR eI x (fl L) ab ae X ∧ x.heap[t]? = some (.cells #[Vi v, Vi w, Vl aa U ad, Vi af, Vl ab X ae] 53 (0, 0)) ∧ x.heap[i]? = some (.cells #[Vi al, Vi am, Vi an, Vi ao, .bool ap] 114 (0, 0)) ∧ OwnS (eProd (eProd eI eI) (eProd (eProd eI eI) (eProd eBool eBool))) 68 x (fl L) z J D) [[t], [i], Bk z, E]) (fun K => K.1) (aB, 0, 0, i64.wrap (v * v), i64.wrap (w * w), false, ([((0, 0), (i64.wrap (v * v), i64.wrap (w * w)), false, false)] : List ((Int × Int) × (Int × Int) × Bool × Bool)), 0, 0, aG, 1) ⟨R, R, R, R, R, R, R, R, T0⟩ ⟨aL, f, a, n, d, g, h, m, r, k⟩ ?_)
 rintro ⟨aB, al, am, an, ao, ap, D, I, G, z, J⟩ Y b9 ⟨ag, f, a, n, d, g, h, m, r, k⟩
 rcases aB with _ | aB
 · exact (Lz ag).elim
 obtain ⟨bK, c, ag⟩ := Bs ag
 refine Cs (Xu 1 [(49, Bd (G < ((q).length : Int)))] (Xk (Cn [(0, Vl A q B), (3, Vp t 0), (7, Vp i 0), (8, Vl z D J), (9, Vi I), (46, Vl A q B), (47, Vi ((q).length : Int)), (48, Vi G), (49, Bd (G < ((q).length : Int)))] (fun Y => ?_))))
 refine Cq (Ci _ R c (fun c => ?_) (fun c => ?_))
 · refine Ck (Kt (Cq (Cb (Cs (Xu 1 [(50, Vi G)] ?_)))))
   obtain ⟨y, bH, c⟩ := Bs c
   refine Xqa [Vi y.1, Vi y.2.1, Vi y.2.2.1, Vi y.2.2.2.1, Vi y.2.2.2.2] (d.el tsl35) tagg102 bH R (fun _ => R) (fun _ => Xj #[Vi 0, Vi 0, Vi 0, Vi 0, Vi 0] R (fun aI b2 ba Z bn => ?_))
   have n := n.box f.size ba
   obtain ⟨d, m, g, h, r, k, a, f⟩ := E8 (Cx.b a bn ba Z) d m g h r k a f
   refine Xu 1 [(10, Vi G)] ?_
   obtain ⟨bd, bz, bk, a2⟩ := Sa [Vi y.1, Vi y.2.1, Vi y.2.2.1, Vi y.2.2.2.1, Vi y.2.2.2.2] tagg102 Z R R R
   refine Xp bz R ?_
   obtain ⟨d, m, g, h, r, k, a⟩ := E7 (Cx.j a 0 a2) d m g h r k a
   have f := f.th a2 n 0
   have Z := bk
   refine Xk (Cq (Cq (Cd [] [(0, false), (1, false), (2, false), (3, false), (4, false), (5, false), (6, false), (7, true), (8, false)] _ (by kernel_rfl) R ?_)))
   obtain ⟨d, m, g, h, r, k, Z, a, f⟩ := E9 (Cx.e a (Ev.drew bd)) d m g h r k Z a f
   refine Xu 1 [(53, Vp i 0)] (Yl _ _ R (Ra 0 [Vi y.1, Vi y.2.1, Vi y.2.2.1, Vi y.2.2.2.1, Vi y.2.2.2.2] tagg102 Z nn R) (Yg t 0 2 (Vl aa U ad) R R (Rf tfld53_1 _) tcell49 m nn R (Xu 1 [(57, Vi G)] ?_)))
   obtain ⟨aF, bI, c⟩ := Bs c
   refine Xqa [Vi aF.1, Vi aF.2] (g.el tsl49) tagg39 bI R (fun _ => R) (fun _ => ?_)
   obtain ⟨o, az, c⟩ := Bs c
   obtain ⟨ax, ay⟩ := Kc a [2] [0, 1, 3, 4]
   have ar := runoff_state_roll_w i al am an ao ap y.1 y.2.1 y.2.2.1 y.2.2.2.1 y.2.2.2.2 aF.1 aF.2 _ (bd).drew _ ax r az
   refine Xv ar R ?_
   rintro aE bL ⟨rfl, a3, bt⟩
   obtain ⟨d, m, g, h, k, Z, a⟩ := E7 (Cx.c0 a [2] a3) d m g h k Z a
   have aK : ∀ b ∈ fl [[i]], H.heap.size ≤ b := FR.mem (ls := [[i]]) (n.pk [2] _ R)
   have f := f.then a3 (fun b aq => .inr (aK b aq))
   have r := bt
   refine Xu 1 [(61, .bool (!o.1))] (Xk (Ci _ R c (fun c => ?_) (fun c => ?_)))
   · refine Cq (Cb ?_)
     obtain ⟨d, k, a⟩ := E3 (Cx.s a [3, 4]) d k a
     have n := n.px [3]
     obtain ⟨bg, aN, bi⟩ := Bs c
     obtain ⟨aC, aN⟩ := Lo aN
     refine Cl (Lr hmx (σ := Nat × (List ((Int × Int) × (Int × Int) × Bool × Bool)) × Option Addr × Nat) (fun K => match K with | (_, F, C, N) => [(0, Vl A q B), (8, Vl C F N)]) (fun K x => match K with | (aU, F, C, N) => loopN (runoff_Pass_L25 q) aU F = some bg ∧ Ev [] H x ∧ (fun L => MS x L ∧ FR H.heap.size [Bk C] ∧ SlR (eProd eI (eIt4)) x (fl L) A B q ∧ OwnS (eProd (eProd eI eI) (eProd (eProd eI eI) (eProd eBool eBool))) 68 x (fl L) C N F) [Bk C, E]) (fun K => K.1) (aC, D, z, J) ⟨R, R, T0⟩ ⟨aN, f, a, n, d, k⟩ ?_)
     rintro ⟨aC, F, C, N⟩ Y ca ⟨aw, f, a, n, d, k⟩
     rcases aC with _ | aC
     · exact (Lz aw).elim
     obtain ⟨b0, c, aw⟩ := Bs aw
     refine Cq (Cs (Xu 1 [(62, Vl C F N)] (Xz tsl55 R (Xu 1 [(64, Vl A q B)] (Xz tsl35 R (Xu 1 [(66, Bd (((F).length : Int) ≤ ((q).length : Int)))] (Xk (Cn [(0, Vl A q B), (8, Vl C F N), (66, Bd (((F).length : Int) ≤ ((q).length : Int)))] (fun Y => ?_)))))))))
     refine Ci _ R c (fun c => ?_) (fun c => ?_)
     · refine Ck (Kt (Cb (Cp (Xu 1 [(67, Vl C F N)] (Xg (.agg #[Vi 0, Vi 0, Vi 0, Vi 0, .bool false, .bool true]) R (Xh #[Vi 0, Vi 0, Vi 0, Vi 0, .bool false, .bool true] 68 R (fun bU b3 bw bl bo => ?_)))))))
       have S := Cx.e a bo
       obtain ⟨d, k, a, f⟩ := E4 S d k a f
       have bC := S.l (e := (eProd (eProd eI eI) (eProd (eProd eI eI) (eProd eBool eBool)))) bw bl 1 [((0, 0), (0, 0), false, true)]
       have aQ := Gl c
       have c := Gr c
       obtain ⟨aX, aZ, b4, bA, a4, a8, bY, bF⟩ := own_appendN tel55 55 k (Mf 0 R) bC aQ
       refine Xx R (Rn bA) ?_
       have S := Cx.u a 0 a4 a8
       obtain ⟨d, a⟩ := E2 S d a
       have aO := n.ux 0 f a8
       have f := f.th a4 n 0
       have n := aO
       have k := bF _ S.st.new
       refine Xu 1 [(8, Vl aX ((F ++ ([((0, 0), (0, 0), false, true)] : List ((Int × Int) × (Int × Int) × Bool × Bool)))) aZ)] (Xe R (Kl ?_))
       obtain rfl := Sj c
       exact Kt ⟨(aC, (F ++ ([((0, 0), (0, 0), false, true)] : List ((Int × Int) × (Int × Int) × Bool × Bool))), aX, aZ), ⟨R, R, T0⟩, ⟨aw, f, a, n, d, k⟩, Ns _⟩
     refine Ce (Ke ?_)
     obtain rfl := Sj c
     have aA := Sj aw
     subst aA
     have c := bi
     refine Ke (Ki (Kt (Cn [(8, Vl C F N)] (fun Y => ?_))))
     refine Ce (Ke (k_block_out R (Ke ?_)))
     obtain rfl := Sj c
     have aA := Sj ag
     subst aA
     have c := a0
     refine Ke (Ki (Kt (Cn [(8, Vl C F N)] (fun Y => ?_))))
     refine Cs (Xu 3 [(107, Vl C F N), (4, Vl C F N), (5, Vi 0)] (Xk (Cr (Rr (Rv [Vl C F N, Vi 0] ⟨R, R, T0⟩ ?_)))))
     obtain rfl := Sj c
     have av := a.pk [0, 1] [Bk C, E] R
     have aS := Pk (ls := [Bk C, E]) [0, 1] [Bk C, E] R
     have au := n.pk [0] [Bk C] R
     exact ⟨C, N, R, f, av, au, k.sub aS⟩
   refine Ck (Kt (c_join (σ := Int × Int × Int) (fun K => match K with | (O, Q, ah) => [(0, Vl A q B), (3, Vp t 0), (7, Vp i 0), (8, Vl z D J), (9, Vi ah), (46, Vl A q B), (47, Vi ((q).length : Int)), (48, Vi G)]) (fun K x => match K with | (O, Q, ah) => runoff_Pass_J29 D G o O Q ah = some bK ∧ Ev [] H x ∧ (fun L => MS x L ∧ FR H.heap.size [[t], [i], Bk z] ∧ SlR (eProd eI (eIt4)) x (fl L) A B q ∧ SlR (eProd eI eI) x (fl L) aa ad U ∧ SlR eI x (fl L) ab ae X ∧ x.heap[t]? = some (.cells #[Vi v, Vi w, Vl aa U ad, Vi af, Vl ab X ae] 53 (0, 0)) ∧ x.heap[i]? = some (.cells #[Vi o.2.1, Vi o.2.2.1, Vi O, Vi Q, .bool o.2.2.2.2.2] 114 (0, 0)) ∧ OwnS (eProd (eProd eI eI) (eProd (eProd eI eI) (eProd eBool eBool))) 68 x (fl L) z J D) [[t], [i], Bk z, E]) ?_ ?_))
   · refine Cs (Yg aI 0 4 (Vi y.2.2.2.2) R R (Rf tfld102_4 _) tcell3 Z nn R (Xu 1 [(73, Bd (y.2.2.2.2 > 0))] (Xk (Ci _ R c (fun c => ?_) (fun c => ?_)))))
     · refine Cq (Cs (Yg t 0 4 (Vl ab X ae) R R (Rf tfld53_3 _) tcell22 m nn R (Xu 1 [(76, Vi I)] ?_)))
       obtain ⟨ai, bJ, c⟩ := Bs c
       refine Xq0 (h.el tsl22) tcell3 bJ R (fun _ => R) (fun _ => Xu 1 [(12, Vi ai)] (Xk (Cn [(0, Vl A q B), (3, Vp t 0), (7, Vp i 0), (8, Vl z D J), (9, Vi I), (11, Vp aI 0), (12, Vi ai), (46, Vl A q B), (47, Vi ((q).length : Int)), (48, Vi G)] (fun Y => ?_))))
       refine Cs (Xu 2 [(79, Vi ai), (80, Bd (ai ≥ 0))] (Xk (Ci _ R c (fun c => ?_) (fun c => ?_))))
       · refine Cp (Xu 1 [(81, Vp i 0)] (Yg aI 0 4 (Vi y.2.2.2.2) R R (Rf tfld102_4 _) tcell3 Z nn R (Xu 1 [(84, Vi ai)] (Yg t 0 3 (Vi af) R R (Rf tfld53_2 _) tcell3 m nn R ?_))))
         obtain ⟨be, az, c⟩ := Bs c
         obtain ⟨ax, ay⟩ := Kc a [2] [0, 1, 3, 4]
         have ar := runoff_state_brake_w i o.2.1 o.2.2.1 o.2.2.2.1 o.2.2.2.2.1 o.2.2.2.2.2 y.2.2.2.2 ai af _ bL _ ax r az
         refine Xv ar R ?_
         rintro aE b5 ⟨rfl, a5, bu⟩
         obtain ⟨d, m, g, h, k, a⟩ := E6 (Cx.c0 a [2] a5) d m g h k a
         have aK : ∀ b ∈ fl [[i]], H.heap.size ≤ b := FR.mem (ls := [[i]]) (n.pk [2] _ R)
         have f := f.then a5 (fun b aq => .inr (aK b aq))
         have r := bu
         refine Xk (Cp (Xu 3 [(88, Vi I), (89, Vi (i64.wrap (I + 1))), (9, Vi (i64.wrap (I + 1)))] (Xe R ?_)))
         obtain ⟨d, g, h, k, a⟩ := E5 (Cx.s a [1, 2, 3, 4]) d g h k a
         have n := n.px [1, 2, 3]
         exact Kt ⟨(be.1, be.2, i64.wrap (I + 1)), ⟨R, R, R, R, R, R, R, R, T0⟩, c, f, a, n, d, g, h, m, r, k⟩
       refine Ck (Kt (Cp (Xu 3 [(88, Vi I), (89, Vi (i64.wrap (I + 1))), (9, Vi (i64.wrap (I + 1)))] (Xe R ?_))))
       obtain ⟨d, g, h, k, a⟩ := E5 (Cx.s a [1, 2, 3, 4]) d g h k a
       have n := n.px [1, 2, 3]
       exact Kt ⟨(o.2.2.2.1, o.2.2.2.2.1, i64.wrap (I + 1)), ⟨R, R, R, R, R, R, R, R, T0⟩, c, f, a, n, d, g, h, m, r, k⟩
     refine Ck ?_
     obtain ⟨d, g, h, k, a⟩ := E5 (Cx.s a [1, 2, 3, 4]) d g h k a
     have n := n.px [1, 2, 3]
     exact Kt ⟨(o.2.2.2.1, o.2.2.2.2.1, I), ⟨R, R, R, R, R, R, R, R, T0⟩, c, f, a, n, d, g, h, m, r, k⟩
   rintro ⟨O, Q, ah⟩ Y bQ ⟨c, f, a, n, d, g, h, m, r, k⟩
   refine Cd [] [(0, false), (1, false), (2, false), (3, false), (4, false), (5, false), (6, false), (7, false), (8, false), (9, false), (10, false), (11, false), (12, false), (13, false), (14, true), (15, true), (16, false)] _ (by kernel_rfl) R ?_
   obtain ⟨d, m, g, h, r, k, a, f⟩ := E8 (Cx.e a (Ev.drew bQ)) d m g h r k a f
   refine Xu 3 [(90, Vl z D J), (91, Vp i 0), (92, Vp i 0)] (Yf (Vp i 0) (Vp i 0) R (Rf tfld114_0 _) (Yl _ _ R (Ra 0 [Vi o.2.1, Vi o.2.2.1] tagg39 r nn R) (Xu 2 [(95, Vp i 0), (96, Vp i 0)] (Yf (Vp i 0) (Vp i 2) R (Rf tfld114_1 _) (Yl _ _ R (Ra 2 [Vi O, Vi Q] tagg39 r nn R) (Xu 2 [(99, Vp i 0), (100, Vp i 0)] (Yg i 0 4 (.bool o.2.2.2.2.2) R R (Rf tfld114_2 _) tcell4 r nn R (Xg (.agg #[Vi o.2.1, Vi o.2.2.1, Vi O, Vi Q, .bool o.2.2.2.2.2, .bool false]) R ?_))))))))
   refine Xh #[Vi o.2.1, Vi o.2.2.1, Vi O, Vi Q, .bool o.2.2.2.2.2, .bool false] 68 R (fun bX b6 bx bm bp => ?_)
   have S := Cx.e a bp
   obtain ⟨d, m, g, h, r, k, a, f⟩ := E8 S d m g h r k a f
   have bD := S.l (e := (eProd (eProd eI eI) (eProd (eProd eI eI) (eProd eBool eBool)))) bx bm 1 [((o.2.1, o.2.2.1), (O, Q), o.2.2.2.2.2, false)]
   have aQ := Gl c
   have c := Gr c
   obtain ⟨aH, aJ, b7, bB, a6, a9, bZ, bG⟩ := own_appendN tel55 55 k (Mf 2 R) bD aQ
   refine Xx R (Rn bB) ?_
   have S := Cx.u a 2 a6 a9
   obtain ⟨d, m, g, h, r, a⟩ := E6 S d m g h r a
   have aO := n.ux 2 f a9
   have f := f.th a6 n 2
   have n := aO
   have k := bG _ S.st.new
   refine Xu 1 [(8, Vl aH ((D ++ ([((o.2.1, o.2.2.1), (O, Q), o.2.2.2.2.2, false)] : List ((Int × Int) × (Int × Int) × Bool × Bool)))) aJ)] (Xe R (Kl (Kt (Cn [(0, Vl A q B), (3, Vp t 0), (7, Vp i 0), (8, Vl aH ((D ++ ([((o.2.1, o.2.2.1), (O, Q), o.2.2.2.2.2, false)] : List ((Int × Int) × (Int × Int) × Bool × Bool)))) aJ), (9, Vi ah), (46, Vl A q B), (47, Vi ((q).length : Int)), (48, Vi G)] (fun Y => ?_)))))
   refine Cp (Xu 2 [(106, Vi (i64.wrap (G + 1))), (48, Vi (i64.wrap (G + 1)))] (Xe R ?_))
   obtain rfl := Sj c
   exact Kt ⟨(aB, o.2.1, o.2.2.1, O, Q, o.2.2.2.2.2, (D ++ ([((o.2.1, o.2.2.1), (O, Q), o.2.2.2.2.2, false)] : List ((Int × Int) × (Int × Int) × Bool × Bool))), ah, i64.wrap (G + 1), aH, aJ), ⟨R, R, R, R, R, R, R, R, T0⟩, ⟨ag, f, a, n, d, g, h, m, r, k⟩, Ns _⟩
 refine Ce (Ke ?_)
 obtain rfl := Sj c
 have aA := Sj ag
 subst aA
 have c := a0
 refine Ke (Ki (Kt (Cn [(8, Vl z D J)] (fun Y => ?_))))
 refine Cs (Xu 3 [(107, Vl z D J), (4, Vl z D J), (5, Vi 0)] (Xk (Cr (Rr (Rv [Vl z D J, Vi 0] ⟨R, R, T0⟩ ?_)))))
 obtain rfl := Sj c
 have av := a.pk [2, 3] [Bk z, E] R
 have aS := Pk (ls := [[t], [i], Bk z, E]) [2, 3] [Bk z, E] R
 have au := n.pk [2] [Bk z] R
 exact ⟨z, J, R, f, av, au, k.sub aS⟩
def runoff_Point_L29 (k : List (Int × Int × Int × Int × Int)) (l : List Int) (m : List Int) (n : Int × Int × (List (Int × Int)) × Int × Int) : Option (Step (Int × Int × (List (Int × Int)) × Int × Int) (((List (Int × Int)) × Int) ⊕ (List (Int × Int)))) :=
match n with
| (g, d, h, j, i) =>
(if (decide (i < ((k).length : Int))) = true then
((idx k i).bind fun c =>
((runoff_roots d).bind fun a =>
((idx l i).bind fun o =>
((runoff_gain c.1 c.2.1 c.2.2.1 c.2.2.2.1 c.2.2.2.2 o).bind fun e =>
(if (decide ((i64.wrap (d + e.1)) < 0)) = true then
some (.done (.inl (h, i)))
else
((runoff_roots (i64.wrap (d + e.1))).bind fun b =>
(if ((i64.wrap (a.1 + b.1)) == 0) = true then
some (.done (.inl (h, i)))
else
(if i64.wrap (a.1 + b.1) ≠ 0 then
(if (decide (c.2.2.2.2 > 0)) = true then
((idx m j).bind fun f =>
(if (decide (f ≥ 0)) = true then
(if h.length + ([(if 1000000000 < (i64.wrap (g + (i64.wrap (Int.tdiv (i64.wrap ((i64.wrap ((i64.wrap ((i64.wrap (2000 * c.2.1)) + a.1)) + b.1)) - 1)) (i64.wrap (a.1 + b.1)))))) then 1000000000 else (i64.wrap (g + (i64.wrap (Int.tdiv (i64.wrap ((i64.wrap ((i64.wrap ((i64.wrap (2000 * c.2.1)) + a.1)) + b.1)) - 1)) (i64.wrap (a.1 + b.1)))))), if (i64.wrap ((i64.wrap (d + e.1)) - c.2.2.2.2)) > (if (i64.wrap (f * f)) < (i64.wrap (d + e.1)) then (i64.wrap (f * f)) else (i64.wrap (d + e.1))) then (i64.wrap ((i64.wrap (d + e.1)) - c.2.2.2.2)) else (if (i64.wrap (f * f)) < (i64.wrap (d + e.1)) then (i64.wrap (f * f)) else (i64.wrap (d + e.1))))] : List (Int × Int)).length ≤ 4294967296 then
some (.next (if 1000000000 < (i64.wrap (g + (i64.wrap (Int.tdiv (i64.wrap ((i64.wrap ((i64.wrap ((i64.wrap (2000 * c.2.1)) + a.1)) + b.1)) - 1)) (i64.wrap (a.1 + b.1)))))) then 1000000000 else (i64.wrap (g + (i64.wrap (Int.tdiv (i64.wrap ((i64.wrap ((i64.wrap ((i64.wrap (2000 * c.2.1)) + a.1)) + b.1)) - 1)) (i64.wrap (a.1 + b.1)))))), if (i64.wrap ((i64.wrap (d + e.1)) - c.2.2.2.2)) > (if (i64.wrap (f * f)) < (i64.wrap (d + e.1)) then (i64.wrap (f * f)) else (i64.wrap (d + e.1))) then (i64.wrap ((i64.wrap (d + e.1)) - c.2.2.2.2)) else (if (i64.wrap (f * f)) < (i64.wrap (d + e.1)) then (i64.wrap (f * f)) else (i64.wrap (d + e.1))), (h ++ ([(if 1000000000 < (i64.wrap (g + (i64.wrap (Int.tdiv (i64.wrap ((i64.wrap ((i64.wrap ((i64.wrap (2000 * c.2.1)) + a.1)) + b.1)) - 1)) (i64.wrap (a.1 + b.1)))))) then 1000000000 else (i64.wrap (g + (i64.wrap (Int.tdiv (i64.wrap ((i64.wrap ((i64.wrap ((i64.wrap (2000 * c.2.1)) + a.1)) + b.1)) - 1)) (i64.wrap (a.1 + b.1)))))), if (i64.wrap ((i64.wrap (d + e.1)) - c.2.2.2.2)) > (if (i64.wrap (f * f)) < (i64.wrap (d + e.1)) then (i64.wrap (f * f)) else (i64.wrap (d + e.1))) then (i64.wrap ((i64.wrap (d + e.1)) - c.2.2.2.2)) else (if (i64.wrap (f * f)) < (i64.wrap (d + e.1)) then (i64.wrap (f * f)) else (i64.wrap (d + e.1))))] : List (Int × Int))), i64.wrap (j + 1), i64.wrap (i + 1)))
else none)
else
(if h.length + ([(if 1000000000 < (i64.wrap (g + (i64.wrap (Int.tdiv (i64.wrap ((i64.wrap ((i64.wrap ((i64.wrap (2000 * c.2.1)) + a.1)) + b.1)) - 1)) (i64.wrap (a.1 + b.1)))))) then 1000000000 else (i64.wrap (g + (i64.wrap (Int.tdiv (i64.wrap ((i64.wrap ((i64.wrap ((i64.wrap (2000 * c.2.1)) + a.1)) + b.1)) - 1)) (i64.wrap (a.1 + b.1)))))), i64.wrap (d + e.1))] : List (Int × Int)).length ≤ 4294967296 then
some (.next (if 1000000000 < (i64.wrap (g + (i64.wrap (Int.tdiv (i64.wrap ((i64.wrap ((i64.wrap ((i64.wrap (2000 * c.2.1)) + a.1)) + b.1)) - 1)) (i64.wrap (a.1 + b.1)))))) then 1000000000 else (i64.wrap (g + (i64.wrap (Int.tdiv (i64.wrap ((i64.wrap ((i64.wrap ((i64.wrap (2000 * c.2.1)) + a.1)) + b.1)) - 1)) (i64.wrap (a.1 + b.1)))))), i64.wrap (d + e.1), (h ++ ([(if 1000000000 < (i64.wrap (g + (i64.wrap (Int.tdiv (i64.wrap ((i64.wrap ((i64.wrap ((i64.wrap (2000 * c.2.1)) + a.1)) + b.1)) - 1)) (i64.wrap (a.1 + b.1)))))) then 1000000000 else (i64.wrap (g + (i64.wrap (Int.tdiv (i64.wrap ((i64.wrap ((i64.wrap ((i64.wrap (2000 * c.2.1)) + a.1)) + b.1)) - 1)) (i64.wrap (a.1 + b.1)))))), i64.wrap (d + e.1))] : List (Int × Int))), i64.wrap (j + 1), i64.wrap (i + 1)))
else none)))
else
(if h.length + ([(if 1000000000 < (i64.wrap (g + (i64.wrap (Int.tdiv (i64.wrap ((i64.wrap ((i64.wrap ((i64.wrap (2000 * c.2.1)) + a.1)) + b.1)) - 1)) (i64.wrap (a.1 + b.1)))))) then 1000000000 else (i64.wrap (g + (i64.wrap (Int.tdiv (i64.wrap ((i64.wrap ((i64.wrap ((i64.wrap (2000 * c.2.1)) + a.1)) + b.1)) - 1)) (i64.wrap (a.1 + b.1)))))), i64.wrap (d + e.1))] : List (Int × Int)).length ≤ 4294967296 then
some (.next (if 1000000000 < (i64.wrap (g + (i64.wrap (Int.tdiv (i64.wrap ((i64.wrap ((i64.wrap ((i64.wrap (2000 * c.2.1)) + a.1)) + b.1)) - 1)) (i64.wrap (a.1 + b.1)))))) then 1000000000 else (i64.wrap (g + (i64.wrap (Int.tdiv (i64.wrap ((i64.wrap ((i64.wrap ((i64.wrap (2000 * c.2.1)) + a.1)) + b.1)) - 1)) (i64.wrap (a.1 + b.1)))))), i64.wrap (d + e.1), (h ++ ([(if 1000000000 < (i64.wrap (g + (i64.wrap (Int.tdiv (i64.wrap ((i64.wrap ((i64.wrap ((i64.wrap (2000 * c.2.1)) + a.1)) + b.1)) - 1)) (i64.wrap (a.1 + b.1)))))) then 1000000000 else (i64.wrap (g + (i64.wrap (Int.tdiv (i64.wrap ((i64.wrap ((i64.wrap ((i64.wrap (2000 * c.2.1)) + a.1)) + b.1)) - 1)) (i64.wrap (a.1 + b.1)))))), i64.wrap (d + e.1))] : List (Int × Int))), j, i64.wrap (i + 1)))
else none))
else none))))))))
else
some (.done (.inr h)))
def runoff_Point_L13 (b : List Int) (c : Int) : Option (Step Int (Unit ⊕ Unit)) :=
match c with
| a =>
(if (decide (a < ((b).length : Int))) = true then
((idx b a).bind fun d =>
((runoff_in d (-5000) 10000).bind fun e =>
(if (!e) = true then
some (.done (.inl ()))
else
some (.next (i64.wrap (a + 1))))))
else
some (.done (.inr ())))
def runoff_Point (b : List (Int × Int × Int × Int × Int)) (a : Int) (d : List Int) (e : List Int) : Option ((List (Int × Int)) × Int × Int) :=
((runoff_Valid b).bind fun f =>
(if (f != 0) = true then
some ([], 0, f)
else
(if (((d).length : Int) != ((b).length : Int)) = true then
some ([], 0, 1)
else
((runoff_retarders b).bind fun j =>
(if (((e).length : Int) != j) = true then
some ([], 0, 1)
else
((loop (runoff_Point_L13 d) 0).bind fun c => match c with
| (.inl _) => some ([], 0, 2)
| (.inr _) => ((runoff_in a 0 20000).bind fun k =>
(if (!k) = true then
some ([], 0, 2)
else
((runoff_targets e).bind fun l =>
(if (!l) = true then
some ([], 0, 2)
else
((loop (runoff_Point_L29 b d e) (0, i64.wrap (a * a), ([(0, i64.wrap (a * a))] : List (Int × Int)), 0, 0)).bind fun c => match c with
| (.inl (g, i)) => some (g, i, 0)
| (.inr h) => some (h, (-1), 0))))))))))))
theorem runoff_Point_w (H I z E ab ac L ae af Y ay aa G) (d : MS aa [G]) (n : SlR (eProd eI (eIt4)) aa (fl [G]) H I z) (o : SlR eI aa (fl [G]) ab ac L) (q : SlR eI aa (fl [G]) ae af Y) (f : runoff_Point z E L Y = some ay) : CallVC Tryz.prog 19 [Vl H z I, .agg #[Vi E, Vl ab L ac, Vl ae Y af]] aa fun ak N => ∃ ap aN, ak = .tuple #[Vl ap ay.1 aN, Vi ay.2.1, Vi ay.2.2] ∧ Ev [] aa N ∧ MS N [Bk ap, G] ∧ FR aa.heap.size [Bk ap] ∧ OwnS (eProd eI eI) 66 N (fl [Bk ap, G]) ap aN ay.1 := by
 refine Cw hmx Tryz.func19 R R R ?_
 have m := Ev.refl [] aa
 have x := FR.nil aa.heap.size
 refine Cs (Xo R (fun A cd bb r bB => ?_))
 have x := x.box m.size bb
 obtain ⟨n, o, q, d, m⟩ := E5 (Cx.b d bB bb r) n o q d m
 refine Xu 3 [(4, Z0), (5, Vi 0), (6, Vi 0)] (Xk (Cq (Cs (Xu 1 [(22, Vl H z I)] ?_))))
 obtain ⟨ao, X, f⟩ := Bs f
 obtain ⟨au, av⟩ := Kc d [] [0, 1]
 have U := runoff_Valid_w H I z _ cd _ au (n.sub av) X
 refine Xv U R ?_
 rintro ak aI ⟨rfl, bH⟩
 obtain ⟨n, o, q, r, d, m⟩ := E6 (Cx.e d bH) n o q r d m
 refine Xu 1 [(7, Vi ao)] (Xk (Cs (Xu 2 [(24, Vi ao), (25, .bool (ao != 0))] (Xk (Ci _ R f (fun f => ?_) (fun f => ?_))))))
 · refine Cs (Xu 4 [(26, Vi ao), (4, Z0), (5, Vi 0), (6, Vi ao)] (Xk (Cr (Kr (Rr (Rv [Z0, Vi 0, Vi ao] ⟨R, R, R, T0⟩ ?_))))))
   obtain rfl := Sj f
   have Q := d.pick [none, some 1] [Bk none, G] R
   have O := x.pick [none] [Bk none] R
   exact ⟨none, 0, R, m, Q, O, OwnS.nil _ _ _ _⟩
 refine Ck (Kt (Cq (Cq (Cd [] [(0, false), (1, false), (2, false), (3, false), (4, false), (5, false), (6, false), (7, false), (8, false), (9, false), (10, false), (11, false), (12, false), (13, false)] _ (by kernel_rfl) R ?_))))
 obtain ⟨n, o, q, r, d, m⟩ := E6 (Cx.e d (Ev.drew aI)) n o q r d m
 refine Yg A 0 1 (Vl ab L ac) R R (Rf tfld62_1 _) tcell22 r nn R (Xz tsl22 R (Xu 1 [(30, Vl H z I)] (Xz tsl35 R (Xu 2 [(32, .bool (((L).length : Int) != ((z).length : Int))), (33, .bool (((L).length : Int) != ((z).length : Int)))] (Xw 33 _ R f (fun f => ?_) (fun f => ?_))))))
 · refine Xu 7 (Un 34 6 ++ [(40, .bool true)]) (Xk (Cn [(0, Vl H z I), (3, Vp A 0), (40, .bool true)] (fun Z => ?_)))
   refine c_true R (Cs (Xu 3 [(4, Z0), (5, Vi 0), (6, Vi 1)] (Xk (Cr (Kr (Rr (Rv [Z0, Vi 0, Vi 1] ⟨R, R, R, T0⟩ ?_)))))))
   obtain rfl := Sj f
   have Q : MS (aI).drew [Bk none, G] := d.pick [none, some 1] _ R
   have O := x.pick [none] [Bk none] R
   exact ⟨none, 0, R, m, Q, O, OwnS.nil _ _ _ _⟩
 refine Yg A 0 2 (Vl ae Y af) R R (Rf tfld62_2 _) tcell22 r nn R (Xz tsl22 R (Xu 1 [(37, Vl H z I)] ?_))
 obtain ⟨aJ, X, f⟩ := Bs f
 obtain ⟨au, av⟩ := Kc d [] [0, 1]
 have U := runoff_retarders_w H I z _ (aI).drew _ au (n.sub av) X
 refine Xc 48 #[] #[] _ _ R R R R U ?_
 rintro ak cr ⟨rfl, aS⟩
 refine ⟨.inr aS, ?_⟩
 obtain ⟨n, o, q, r, d, m⟩ := E6 (Cx.e d aS) n o q r d m
 refine Xu 2 [(39, .bool (((Y).length : Int) != aJ)), (40, .bool (((Y).length : Int) != aJ))] (Xk (Cn [(0, Vl H z I), (3, Vp A 0), (40, .bool (((Y).length : Int) != aJ))] (fun Z => ?_)))
 refine Ci _ R f (fun f => ?_) (fun f => ?_)
 · refine Cs (Xu 3 [(4, Z0), (5, Vi 0), (6, Vi 1)] (Xk (Cr (Kr (Rr (Rv [Z0, Vi 0, Vi 1] ⟨R, R, R, T0⟩ ?_))))))
   obtain rfl := Sj f
   have Q := d.pick [none, some 1] [Bk none, G] R
   have O := x.pick [none] [Bk none] R
   exact ⟨none, 0, R, m, Q, O, OwnS.nil _ _ _ _⟩
 refine Ck (Kt (Cq (Cs (Yg A 0 1 (Vl ab L ac) R R (Rf tfld62_1 _) tcell22 r nn R (Xz tsl22 R (Xu 1 [(44, Vi 0)] (Xk (Cb ?_))))))))
 obtain ⟨bh, aF, aQ⟩ := Bs f
 obtain ⟨ax, aF⟩ := Lo aF
 refine Cl (Lr hmx (σ := Nat × Int) (fun s => match s with | (_, ag) => [(0, Vl H z I), (3, Vp A 0), (42, Vl ab L ac), (43, Vi ((L).length : Int)), (44, Vi ag)]) (fun s N => match s with | (aH, ag) => loopN (runoff_Point_L13 L) aH ag = some bh ∧ Ev [] aa N ∧ (fun ah => MS N ah ∧ FR aa.heap.size [[A]] ∧ SlR (eProd eI (eIt4)) N (fl ah) H I z ∧ SlR eI N (fl ah) ab ac L ∧ SlR eI N (fl ah) ae af Y ∧ N.heap[A]? = some (.cells #[Vi E, Vl ab L ac, Vl ae Y af] 62 (0, 0))) [[A], G]) (fun s => s.1) (ax, 0) ⟨R, R, R, R, R, T0⟩ ⟨aF, m, d, x, n, o, q, r⟩ ?_)
 rintro ⟨ax, ag⟩ Z bd ⟨an, m, d, x, n, o, q, r⟩
 rcases ax with _ | ax
 · exact (Lz an).elim
 obtain ⟨cp, f, an⟩ := Bs an
 refine Cs (Xu 1 [(45, Bd (ag < ((L).length : Int)))] (Xk (Cn [(0, Vl H z I), (3, Vp A 0), (42, Vl ab L ac), (43, Vi ((L).length : Int)), (44, Vi ag), (45, Bd (ag < ((L).length : Int)))] (fun Z => ?_))))
 refine Cq (Ci _ R f (fun f => ?_) (fun f => ?_))
 · refine Ck (Kt (Cq (Cb (Cs ?_))))
   obtain ⟨aK, b7, f⟩ := Bs f
   refine Xq0 (o.el tsl22) tcell3 b7 R (fun _ => R) (fun _ => Xu 1 [(9, Vi aK)] (Xk (Cs (Xu 1 [(48, Vi aK)] ?_))))
   obtain ⟨cg, X, f⟩ := Bs f
   have U := runoff_in_w aK (-5000) 10000 _ bd X
   refine Xv U R ?_
   rintro ak cs ⟨rfl, bu⟩
   obtain ⟨n, r, o, q, d, m⟩ := E6 (Cx.e d bu) n r o q d m
   refine Xu 1 [(50, .bool (!cg))] (Xk (Ci _ R f (fun f => ?_) (fun f => ?_)))
   · refine Cs (Xu 3 [(4, Z0), (5, Vi 0), (6, Vi 2)] (Xk (Cr (Kb (Kr ?_)))))
     obtain rfl := Sj f
     have aj := Sj an
     subst aj
     have f := aQ
     refine Kr (Kb (Kr (Rr (Rv [Z0, Vi 0, Vi 2] ⟨R, R, R, T0⟩ ?_))))
     obtain rfl := Sj f
     have Q := d.pick [none, some 1] [Bk none, G] R
     have O := x.pick [none] [Bk none] R
     exact ⟨none, 0, R, m, Q, O, OwnS.nil _ _ _ _⟩
   refine Ck (Kl (Kt (Cp (Xu 2 [(51, Vi (i64.wrap (ag + 1))), (44, Vi (i64.wrap (ag + 1)))] (Xe R ?_)))))
   obtain rfl := Sj f
   exact Kt ⟨(ax, i64.wrap (ag + 1)), ⟨R, R, R, R, R, T0⟩, ⟨an, m, d, x, n, o, q, r⟩, Ns _⟩
 refine Ce (Ke ?_)
 obtain rfl := Sj f
 have aj := Sj an
 subst aj
 have f := aQ
 refine Ke (Ki (Kt (Cn [(0, Vl H z I), (3, Vp A 0)] (fun Z => ?_))))
 refine Cq (Cs (Yg A 0 0 (Vi E) R R (Rf tfld62_0 _) tcell3 r nn R ?_))
 obtain ⟨be, X, f⟩ := Bs f
 have U := runoff_in_w E 0 20000 _ bd X
 refine Xv U R ?_
 rintro ak cb ⟨rfl, bv⟩
 obtain ⟨n, r, o, q, d, m⟩ := E6 (Cx.e d bv) n r o q d m
 refine Xu 2 [(55, .bool (!be)), (56, .bool (!be))] (Xw 56 _ R f (fun f => ?_) (fun f => ?_))
 · refine Xu 5 [(57, U0), (58, U0), (59, U0), (60, U0), (61, .bool true)] (Xk (c_true R (Cs (Xu 3 [(4, Z0), (5, Vi 0), (6, Vi 2)] (Xk (Cr (Kr (Rr (Rv [Z0, Vi 0, Vi 2] ⟨R, R, R, T0⟩ ?_)))))))))
   obtain rfl := Sj f
   have Q := d.pick [none, some 1] [Bk none, G] R
   have O := x.pick [none] [Bk none] R
   exact ⟨none, 0, R, m, Q, O, OwnS.nil _ _ _ _⟩
 refine Yg A 0 2 (Vl ae Y af) R R (Rf tfld62_2 _) tcell22 r nn R ?_
 obtain ⟨bf, X, f⟩ := Bs f
 obtain ⟨au, av⟩ := Kc d [] [0, 1]
 have U := runoff_targets_w ae af Y _ cb _ au (q.sub av) X
 refine Xv U R ?_
 rintro ak ct ⟨rfl, bw⟩
 obtain ⟨n, r, o, q, d, m⟩ := E6 (Cx.e d bw) n r o q d m
 refine Xu 2 [(60, .bool (!bf)), (61, .bool (!bf))] (Xk (Ci _ R f (fun f => ?_) (fun f => ?_)))
 · refine Cs (Xu 3 [(4, Z0), (5, Vi 0), (6, Vi 2)] (Xk (Cr (Kr (Rr (Rv [Z0, Vi 0, Vi 2] ⟨R, R, R, T0⟩ ?_))))))
   obtain rfl := Sj f
   have Q := d.pick [none, some 1] [Bk none, G] R
   have O := x.pick [none] [Bk none] R
   exact ⟨none, 0, R, m, Q, O, OwnS.nil _ _ _ _⟩
 refine Ck (Kt (Cs (Yg A 0 0 (Vi E) R R (Rf tfld62_0 _) tcell3 r nn R (Yg A 0 0 (Vi E) R R (Rf tfld62_0 _) tcell3 r nn R (Xu 1 [(66, Vi (i64.wrap (E * E)))] (Xg (.agg #[Vi 0, Vi (i64.wrap (E * E))]) R (Xj #[Vi 0, Vi 0] R (fun D cu a9 t bx => ?_))))))))
 have x := x.box m.size a9
 obtain ⟨n, r, o, q, d, m⟩ := E6 (Cx.b d bx a9 t) n r o q d m
 obtain ⟨cv, bN, bl, aU⟩ := Sa [Vi 0, Vi (i64.wrap (E * E))] tagg66 t R R R
 refine Xp bN R ?_
 obtain ⟨n, r, o, q, d⟩ := E5 (Cx.j d 0 aU) n r o q d
 have m := m.th aU x 0
 have t := bl
 refine Xk (Cs (Yl _ _ R (Ra 0 [Vi 0, Vi (i64.wrap (E * E))] tagg66 t nn R) (Xh #[Vi 0, Vi (i64.wrap (E * E))] 66 R (fun ci cw bI bm aX => ?_))))
 obtain ⟨az, bj, b3, a5⟩ := Ol (e := (eProd eI eI)) bI bm 1 [(0, i64.wrap (E * E))]
 obtain ⟨n, r, o, q, t, d⟩ := E6 (Cx.p d aX a5) n r o q t d
 have x := x.push (fun b bk => Nat.le_trans m.size (a5 b bk).1)
 have m := m.ext aX
 have w := b3 (fl [Bk az, [D], [A], G])
 rw [← bj]
 refine Xu 1 [(11, Vl az (([(0, i64.wrap (E * E))] : List (Int × Int))) 1)] (Xk (Cn [(0, Vl H z I), (3, Vp A 0), (10, Vp D 0), (11, Vl az (([(0, i64.wrap (E * E))] : List (Int × Int))) 1)] (fun Z => ?_)))
 refine Cs (Xu 1 [(12, Vi 0)] (Xk (Cq (Cs (Xu 1 [(70, Vl H z I)] (Xz tsl35 R (Xu 1 [(72, Vi 0)] (Xk (Cb ?_)))))))))
 obtain ⟨o, q, w, n, d⟩ := E5 (Cx.s d [2, 1, 0, 3]) o q w n d
 have x := x.px [2, 1, 0]
 obtain ⟨bi, aG, aE⟩ := Bs f
 obtain ⟨am, aG⟩ := Lo aG
 refine Cl (Lr hmx (σ := Nat × Int × Int × (List (Int × Int)) × Int × Int × Option Addr × Nat) (fun s => match s with | (_, v, k, C, K, B, y, F) => [(3, Vp A 0), (10, Vp D 0), (11, Vl y C F), (12, Vi K), (70, Vl H z I), (71, Vi ((z).length : Int)), (72, Vi B)]) (fun s N => match s with | (aH, v, k, C, K, B, y, F) => loopN (runoff_Point_L29 z L Y) aH (v, k, C, K, B) = some bi ∧ Ev [] aa N ∧ (fun ah => MS N ah ∧ FR aa.heap.size [[A], [D], Bk y] ∧ SlR eI N (fl ah) ab ac L ∧ SlR eI N (fl ah) ae af Y ∧ N.heap[A]? = some (.cells #[Vi E, Vl ab L ac, Vl ae Y af] 62 (0, 0)) ∧ N.heap[D]? = some (.cells #[Vi v, Vi k] 66 (0, 0)) ∧ OwnS (eProd eI eI) 66 N (fl ah) y F C ∧ SlR (eProd eI (eIt4)) N (fl ah) H I z) [[A], [D], Bk y, G]) (fun s => s.1) (am, 0, i64.wrap (E * E), ([(0, i64.wrap (E * E))] : List (Int × Int)), 0, 0, az, 1) ⟨R, R, R, R, R, R, R, T0⟩ ⟨aG, m, d, x, o, q, r, t, w, n⟩ ?_)
 rintro ⟨am, v, k, C, K, B, y, F⟩ Z cH ⟨ai, m, d, x, o, q, r, t, w, n⟩
 rcases am with _ | am
 · exact (Lz ai).elim
 obtain ⟨cq, f, ai⟩ := Bs ai
 refine Cs (Xu 1 [(73, Bd (B < ((z).length : Int)))] (Xk (Cn [(3, Vp A 0), (10, Vp D 0), (11, Vl y C F), (12, Vi K), (70, Vl H z I), (71, Vi ((z).length : Int)), (72, Vi B), (73, Bd (B < ((z).length : Int)))] (fun Z => ?_))))
 refine Cq (Ci _ R f (fun f => ?_) (fun f => ?_))
 · refine Ck (Kt (Cq (Cb (Cs (Xu 1 [(74, Vi B)] ?_)))))
   obtain ⟨g, b8, f⟩ := Bs f
   refine Xqa [Vi g.1, Vi g.2.1, Vi g.2.2.1, Vi g.2.2.2.1, Vi g.2.2.2.2] (n.el tsl35) tagg102 b8 R (fun _ => R) (fun _ => Xj #[Vi 0, Vi 0, Vi 0, Vi 0, Vi 0] R (fun al cx ba J bz => ?_))
   have x := x.box m.size ba
   obtain ⟨r, o, q, t, w, n, d, m⟩ := E8 (Cx.b d bz ba J) r o q t w n d m
   refine Xu 1 [(13, Vi B)] ?_
   obtain ⟨cc, bO, bn, aY⟩ := Sa [Vi g.1, Vi g.2.1, Vi g.2.2.1, Vi g.2.2.2.1, Vi g.2.2.2.2] tagg102 J R R R
   refine Xp bO R ?_
   obtain ⟨r, o, q, t, w, n, d⟩ := E7 (Cx.j d 0 aY) r o q t w n d
   have m := m.th aY x 0
   have J := bn
   refine Xk (Cs (Yg D 0 1 (Vi k) R R (Rf tfld66_1 _) tcell3 t nn R ?_))
   obtain ⟨a, X, f⟩ := Bs f
   have U := runoff_roots_w k _ cc X
   refine Xv U R ?_
   rintro ak bc ⟨rfl, bA⟩
   obtain ⟨r, o, q, t, w, n, J, d, m⟩ := E9 (Cx.e d bA) r o q t w n J d m
   refine Xu 5 [(77, .tuple #[Vi a.1, Vi a.2]), (81, Vi a.1), (82, Vi a.2), (15, Vi a.1), (16, Vi a.2)] (Xk (Cq (Cd [] [(0, false), (1, false), (2, false), (3, false), (4, false), (5, false), (6, true), (7, false), (8, false), (9, false), (10, false), (11, false)] _ (by kernel_rfl) R ?_)))
   obtain ⟨r, o, q, t, w, n, J, d, m⟩ := E9 (Cx.e d (Ev.drew bc)) r o q t w n J d m
   refine Yl _ _ R (Ra 0 [Vi g.1, Vi g.2.1, Vi g.2.2.1, Vi g.2.2.2.1, Vi g.2.2.2.2] tagg102 J nn R) (Yg A 0 1 (Vl ab L ac) R R (Rf tfld62_1 _) tcell22 r nn R (Xu 1 [(87, Vi B)] ?_))
   obtain ⟨ch, b9, f⟩ := Bs f
   refine Xq0 (o.el tsl22) tcell3 b9 R (fun _ => R) (fun _ => ?_)
   obtain ⟨h, X, f⟩ := Bs f
   have U := runoff_gain_w g.1 g.2.1 g.2.2.1 g.2.2.2.1 g.2.2.2.2 ch _ (bc).drew X
   refine Xv U R ?_
   rintro ak cy ⟨rfl, bC⟩
   obtain ⟨r, o, q, t, w, n, J, d, m⟩ := E9 (Cx.e d bC) r o q t w n J d m
   refine Xu 5 [(83, .tuple #[Vi h.1, Vi h.2]), (91, Vi h.1), (92, Vi h.2), (17, Vi h.1), (18, Vi h.2)] (Xk (Cn [(3, Vp A 0), (10, Vp D 0), (11, Vl y C F), (12, Vi K), (13, Vi B), (14, Vp al 0), (15, Vi a.1), (17, Vi h.1), (70, Vl H z I), (71, Vi ((z).length : Int)), (72, Vi B)] (fun Z => ?_)))
   refine Cs (Yg D 0 1 (Vi k) R R (Rf tfld66_1 _) tcell3 t nn R (Xu 2 [(95, Vi h.1), (96, Vi (i64.wrap (k + h.1)))] (Yf (Vp D 0) (Vp D 1) R (Rf tfld66_1 _) ?_)))
   obtain ⟨ce, bQ, bo, aZ⟩ := Sx 1 (Vi (i64.wrap (k + h.1))) tcell3 t
   refine Xp bQ R ?_
   obtain ⟨r, o, q, w, n, J, d⟩ := E7 (Cx.j d 2 aZ) r o q w n J d
   have m := m.th aZ x 2
   have t := bo
   refine Xk (Cq (Cs (Yg D 0 1 (Vi (i64.wrap (k + h.1))) R R (Rf tfld66_1 _) tcell3 t nn R (Xu 1 [(100, Bd ((i64.wrap (k + h.1)) < 0))] (Xk (Ci _ R f (fun f => ?_) (fun f => ?_)))))))
   · refine Cs (Xu 5 [(101, Vl y C F), (102, Vi B), (4, Vl y C F), (5, Vi B), (6, Vi 0)] (Xk (Cr (Kr (Kb (Kr ?_))))))
     obtain rfl := Sj f
     have aj := Sj ai
     subst aj
     have f := aE
     refine Kr (Kb (Kr (Rr (Rv [Vl y C F, Vi B, Vi 0] ⟨R, R, R, T0⟩ ?_))))
     obtain rfl := Sj f
     have Q := d.pk [3, 4] [Bk y, G] R
     have aw := Pk (ls := [[al], [A], [D], Bk y, G]) [3, 4] [Bk y, G] R
     have O := x.pk [3] [Bk y] R
     exact ⟨y, F, R, m, Q, O, w.sub aw⟩
   refine Ck (Kt (Cs (Yg D 0 1 (Vi (i64.wrap (k + h.1))) R R (Rf tfld66_1 _) tcell3 t nn R ?_)))
   obtain ⟨c, X, f⟩ := Bs f
   have U := runoff_roots_w (i64.wrap (k + h.1)) _ ce X
   refine Xv U R ?_
   rintro ak cf ⟨rfl, bD⟩
   obtain ⟨r, o, q, t, w, n, J, d, m⟩ := E9 (Cx.e d bD) r o q t w n J d m
   refine Xu 5 [(103, .tuple #[Vi c.1, Vi c.2]), (107, Vi c.1), (108, Vi c.2), (19, Vi c.1), (20, Vi c.2)] (Xk (Cq (Cs (Xu 4 [(109, Vi a.1), (110, Vi c.1), (111, Vi (i64.wrap (a.1 + c.1))), (112, .bool ((i64.wrap (a.1 + c.1)) == 0))] (Xk (Ci _ R f (fun f => ?_) (fun f => ?_)))))))
   · refine Cs (Xu 5 [(113, Vl y C F), (114, Vi B), (4, Vl y C F), (5, Vi B), (6, Vi 0)] (Xk (Cn [(4, Vl y C F), (5, Vi B), (6, Vi 0)] (fun Z => ?_))))
     refine Cr (Kr (Kb (Kr ?_)))
     obtain rfl := Sj f
     have aj := Sj ai
     subst aj
     have f := aE
     refine Kr (Kb (Kr (Rr (Rv [Vl y C F, Vi B, Vi 0] ⟨R, R, R, T0⟩ ?_))))
     obtain rfl := Sj f
     have Q := d.pk [3, 4] [Bk y, G] R
     have aw := Pk (ls := [[al], [A], [D], Bk y, G]) [3, 4] [Bk y, G] R
     have O := x.pk [3] [Bk y] R
     exact ⟨y, F, R, m, Q, O, w.sub aw⟩
   refine Ck (Kt (Cn [(3, Vp A 0), (10, Vp D 0), (11, Vl y C F), (12, Vi K), (14, Vp al 0), (15, Vi a.1), (19, Vi c.1), (70, Vl H z I), (71, Vi ((z).length : Int)), (72, Vi B)] (fun Z => ?_)))
   refine Cq (Cd [] [(0, false), (1, false), (2, false), (3, false), (4, false), (5, false), (6, false), (7, false), (8, false), (9, false), (10, false), (11, false), (12, false), (13, false), (14, false), (15, false), (16, false), (17, true)] _ (by kernel_rfl) R ?_)
   obtain ⟨r, o, q, t, w, n, J, d, m⟩ := E9 (Cx.e d (Ev.drew cf)) r o q t w n J d m
   refine Yg D 0 0 (Vi v) R R (Rf tfld66_0 _) tcell3 t nn R (Yg al 0 1 (Vi g.2.1) R R (Rf tfld102_1 _) tcell3 J nn R (Xu 9 [(119, Vi (i64.wrap (2000 * g.2.1))), (120, Vi a.1), (121, Vi (i64.wrap ((i64.wrap (2000 * g.2.1)) + a.1))), (122, Vi c.1), (123, Vi (i64.wrap ((i64.wrap ((i64.wrap (2000 * g.2.1)) + a.1)) + c.1))), (124, Vi (i64.wrap ((i64.wrap ((i64.wrap ((i64.wrap (2000 * g.2.1)) + a.1)) + c.1)) - 1))), (125, Vi a.1), (126, Vi c.1), (127, Vi (i64.wrap (a.1 + c.1)))] (x_binop (Vi (i64.wrap (Int.tdiv (i64.wrap ((i64.wrap ((i64.wrap ((i64.wrap (2000 * g.2.1)) + a.1)) + c.1)) - 1)) (i64.wrap (a.1 + c.1))))) (Vi (i64.wrap ((i64.wrap ((i64.wrap ((i64.wrap (2000 * g.2.1)) + a.1)) + c.1)) - 1))) (Vi (i64.wrap (a.1 + c.1))) R R R R (vb_quo (Gl f)) ?_)))
   have f := Gr f
   refine Xu 1 [(129, Vi (i64.wrap (v + (i64.wrap (Int.tdiv (i64.wrap ((i64.wrap ((i64.wrap ((i64.wrap (2000 * g.2.1)) + a.1)) + c.1)) - 1)) (i64.wrap (a.1 + c.1)))))))] (x_min (vs := [Vi (i64.wrap (v + (i64.wrap (Int.tdiv (i64.wrap ((i64.wrap ((i64.wrap ((i64.wrap (2000 * g.2.1)) + a.1)) + c.1)) - 1)) (i64.wrap (a.1 + c.1)))))), Vi 1000000000]) (Vi (if 1000000000 < (i64.wrap (v + (i64.wrap (Int.tdiv (i64.wrap ((i64.wrap ((i64.wrap ((i64.wrap (2000 * g.2.1)) + a.1)) + c.1)) - 1)) (i64.wrap (a.1 + c.1)))))) then 1000000000 else (i64.wrap (v + (i64.wrap (Int.tdiv (i64.wrap ((i64.wrap ((i64.wrap ((i64.wrap (2000 * g.2.1)) + a.1)) + c.1)) - 1)) (i64.wrap (a.1 + c.1)))))))) R R R (fun _ _ => R) (Yf (Vp D 0) (Vp D 0) R (Rf tfld66_0 _) ?_))
   obtain ⟨cz, bS, bp, a0⟩ := Sx 0 (Vi (if 1000000000 < (i64.wrap (v + (i64.wrap (Int.tdiv (i64.wrap ((i64.wrap ((i64.wrap ((i64.wrap (2000 * g.2.1)) + a.1)) + c.1)) - 1)) (i64.wrap (a.1 + c.1)))))) then 1000000000 else (i64.wrap (v + (i64.wrap (Int.tdiv (i64.wrap ((i64.wrap ((i64.wrap ((i64.wrap (2000 * g.2.1)) + a.1)) + c.1)) - 1)) (i64.wrap (a.1 + c.1)))))))) tcell3 t
   refine Xp bS R ?_
   obtain ⟨r, o, q, w, n, J, d⟩ := E7 (Cx.j d 2 a0) r o q w n J d
   have m := m.th a0 x 2
   have t := bp
   refine Xk (Cq (Cs (Yg al 0 4 (Vi g.2.2.2.2) R R (Rf tfld102_4 _) tcell3 J nn R (Xu 1 [(134, Bd (g.2.2.2.2 > 0))] (Xk (Ci _ R f (fun f => ?_) (fun f => ?_)))))))
   · refine Cq (Cs (Yg A 0 2 (Vl ae Y af) R R (Rf tfld62_2 _) tcell22 r nn R (Xu 1 [(137, Vi K)] ?_)))
     obtain ⟨i, ca, f⟩ := Bs f
     refine Xq0 (q.el tsl22) tcell3 ca R (fun _ => R) (fun _ => Xu 1 [(21, Vi i)] (Xk (Cn [(3, Vp A 0), (10, Vp D 0), (11, Vl y C F), (12, Vi K), (14, Vp al 0), (21, Vi i), (70, Vl H z I), (71, Vi ((z).length : Int)), (72, Vi B)] (fun Z => ?_))))
     refine Cs (Xu 2 [(140, Vi i), (141, Bd (i ≥ 0))] (Xk (Ci _ R f (fun f => ?_) (fun f => ?_))))
     · refine Cp (Yg D 0 1 (Vi (i64.wrap (k + h.1))) R R (Rf tfld66_1 _) tcell3 t nn R (Xu 3 [(144, Vi i), (145, Vi i), (146, Vi (i64.wrap (i * i)))] (x_min (vs := [Vi (i64.wrap (k + h.1)), Vi (i64.wrap (i * i))]) (Vi (if (i64.wrap (i * i)) < (i64.wrap (k + h.1)) then (i64.wrap (i * i)) else (i64.wrap (k + h.1)))) R R R (fun _ _ => R) (Yg D 0 1 (Vi (i64.wrap (k + h.1))) R R (Rf tfld66_1 _) tcell3 t nn R (Yg al 0 4 (Vi g.2.2.2.2) R R (Rf tfld102_4 _) tcell3 J nn R (Xu 1 [(152, Vi (i64.wrap ((i64.wrap (k + h.1)) - g.2.2.2.2)))] ?_))))))
       refine x_max (vs := [Vi (if (i64.wrap (i * i)) < (i64.wrap (k + h.1)) then (i64.wrap (i * i)) else (i64.wrap (k + h.1))), Vi (i64.wrap ((i64.wrap (k + h.1)) - g.2.2.2.2))]) (Vi (if (i64.wrap ((i64.wrap (k + h.1)) - g.2.2.2.2)) > (if (i64.wrap (i * i)) < (i64.wrap (k + h.1)) then (i64.wrap (i * i)) else (i64.wrap (k + h.1))) then (i64.wrap ((i64.wrap (k + h.1)) - g.2.2.2.2)) else (if (i64.wrap (i * i)) < (i64.wrap (k + h.1)) then (i64.wrap (i * i)) else (i64.wrap (k + h.1))))) R R R (fun _ _ => R) (Yf (Vp D 0) (Vp D 1) R (Rf tfld66_1 _) ?_)
       obtain ⟨cA, bU, bq, a1⟩ := Sx 1 (Vi (if (i64.wrap ((i64.wrap (k + h.1)) - g.2.2.2.2)) > (if (i64.wrap (i * i)) < (i64.wrap (k + h.1)) then (i64.wrap (i * i)) else (i64.wrap (k + h.1))) then (i64.wrap ((i64.wrap (k + h.1)) - g.2.2.2.2)) else (if (i64.wrap (i * i)) < (i64.wrap (k + h.1)) then (i64.wrap (i * i)) else (i64.wrap (k + h.1))))) tcell3 t
       refine Xp bU R ?_
       obtain ⟨r, o, q, w, n, d⟩ := E6 (Cx.j d 2 a1) r o q w n d
       have m := m.th a1 x 2
       have t := bq
       refine Xk (Cp (Xu 3 [(155, Vi K), (156, Vi (i64.wrap (K + 1))), (12, Vi (i64.wrap (K + 1)))] (Xk (Cp (Xu 1 [(157, Vl y C F)] (Yl _ _ R (Ra 0 [Vi (if 1000000000 < (i64.wrap (v + (i64.wrap (Int.tdiv (i64.wrap ((i64.wrap ((i64.wrap ((i64.wrap (2000 * g.2.1)) + a.1)) + c.1)) - 1)) (i64.wrap (a.1 + c.1)))))) then 1000000000 else (i64.wrap (v + (i64.wrap (Int.tdiv (i64.wrap ((i64.wrap ((i64.wrap ((i64.wrap (2000 * g.2.1)) + a.1)) + c.1)) - 1)) (i64.wrap (a.1 + c.1))))))), Vi (if (i64.wrap ((i64.wrap (k + h.1)) - g.2.2.2.2)) > (if (i64.wrap (i * i)) < (i64.wrap (k + h.1)) then (i64.wrap (i * i)) else (i64.wrap (k + h.1))) then (i64.wrap ((i64.wrap (k + h.1)) - g.2.2.2.2)) else (if (i64.wrap (i * i)) < (i64.wrap (k + h.1)) then (i64.wrap (i * i)) else (i64.wrap (k + h.1))))] tagg66 t nn R) (Xh #[Vi (if 1000000000 < (i64.wrap (v + (i64.wrap (Int.tdiv (i64.wrap ((i64.wrap ((i64.wrap ((i64.wrap (2000 * g.2.1)) + a.1)) + c.1)) - 1)) (i64.wrap (a.1 + c.1)))))) then 1000000000 else (i64.wrap (v + (i64.wrap (Int.tdiv (i64.wrap ((i64.wrap ((i64.wrap ((i64.wrap (2000 * g.2.1)) + a.1)) + c.1)) - 1)) (i64.wrap (a.1 + c.1))))))), Vi (if (i64.wrap ((i64.wrap (k + h.1)) - g.2.2.2.2)) > (if (i64.wrap (i * i)) < (i64.wrap (k + h.1)) then (i64.wrap (i * i)) else (i64.wrap (k + h.1))) then (i64.wrap ((i64.wrap (k + h.1)) - g.2.2.2.2)) else (if (i64.wrap (i * i)) < (i64.wrap (k + h.1)) then (i64.wrap (i * i)) else (i64.wrap (k + h.1))))] 66 R (fun cj cB bJ br bE => ?_))))))))
       have S := Cx.e d bE
       obtain ⟨r, o, q, t, w, n, d, m⟩ := E8 S r o q t w n d m
       have b0 := S.l (e := (eProd eI eI)) bJ br 1 [(if 1000000000 < (i64.wrap (v + (i64.wrap (Int.tdiv (i64.wrap ((i64.wrap ((i64.wrap ((i64.wrap (2000 * g.2.1)) + a.1)) + c.1)) - 1)) (i64.wrap (a.1 + c.1)))))) then 1000000000 else (i64.wrap (v + (i64.wrap (Int.tdiv (i64.wrap ((i64.wrap ((i64.wrap ((i64.wrap (2000 * g.2.1)) + a.1)) + c.1)) - 1)) (i64.wrap (a.1 + c.1)))))), if (i64.wrap ((i64.wrap (k + h.1)) - g.2.2.2.2)) > (if (i64.wrap (i * i)) < (i64.wrap (k + h.1)) then (i64.wrap (i * i)) else (i64.wrap (k + h.1))) then (i64.wrap ((i64.wrap (k + h.1)) - g.2.2.2.2)) else (if (i64.wrap (i * i)) < (i64.wrap (k + h.1)) then (i64.wrap (i * i)) else (i64.wrap (k + h.1))))]
       have ar := Gl f
       have f := Gr f
       obtain ⟨aA, aC, cC, bX, a2, a6, cm, b4⟩ := own_appendN tel58 58 w (Mf 3 R) b0 ar
       refine Xx R (Rn bX) ?_
       have S := Cx.u d 3 a2 a6
       obtain ⟨r, o, q, t, n, d⟩ := E6 S r o q t n d
       have aq := x.ux 3 m a6
       have m := m.th a2 x 3
       have x := aq
       have w := b4 _ S.st.new
       refine Xu 1 [(11, Vl aA ((C ++ ([(if 1000000000 < (i64.wrap (v + (i64.wrap (Int.tdiv (i64.wrap ((i64.wrap ((i64.wrap ((i64.wrap (2000 * g.2.1)) + a.1)) + c.1)) - 1)) (i64.wrap (a.1 + c.1)))))) then 1000000000 else (i64.wrap (v + (i64.wrap (Int.tdiv (i64.wrap ((i64.wrap ((i64.wrap ((i64.wrap (2000 * g.2.1)) + a.1)) + c.1)) - 1)) (i64.wrap (a.1 + c.1)))))), if (i64.wrap ((i64.wrap (k + h.1)) - g.2.2.2.2)) > (if (i64.wrap (i * i)) < (i64.wrap (k + h.1)) then (i64.wrap (i * i)) else (i64.wrap (k + h.1))) then (i64.wrap ((i64.wrap (k + h.1)) - g.2.2.2.2)) else (if (i64.wrap (i * i)) < (i64.wrap (k + h.1)) then (i64.wrap (i * i)) else (i64.wrap (k + h.1))))] : List (Int × Int)))) aC)] (Xe R (Kl (Kt (Cn [(3, Vp A 0), (10, Vp D 0), (11, Vl aA ((C ++ ([(if 1000000000 < (i64.wrap (v + (i64.wrap (Int.tdiv (i64.wrap ((i64.wrap ((i64.wrap ((i64.wrap (2000 * g.2.1)) + a.1)) + c.1)) - 1)) (i64.wrap (a.1 + c.1)))))) then 1000000000 else (i64.wrap (v + (i64.wrap (Int.tdiv (i64.wrap ((i64.wrap ((i64.wrap ((i64.wrap (2000 * g.2.1)) + a.1)) + c.1)) - 1)) (i64.wrap (a.1 + c.1)))))), if (i64.wrap ((i64.wrap (k + h.1)) - g.2.2.2.2)) > (if (i64.wrap (i * i)) < (i64.wrap (k + h.1)) then (i64.wrap (i * i)) else (i64.wrap (k + h.1))) then (i64.wrap ((i64.wrap (k + h.1)) - g.2.2.2.2)) else (if (i64.wrap (i * i)) < (i64.wrap (k + h.1)) then (i64.wrap (i * i)) else (i64.wrap (k + h.1))))] : List (Int × Int)))) aC), (12, Vi (i64.wrap (K + 1))), (70, Vl H z I), (71, Vi ((z).length : Int)), (72, Vi B)] (fun Z => ?_)))))
       refine Cp (Xu 2 [(161, Vi (i64.wrap (B + 1))), (72, Vi (i64.wrap (B + 1)))] (Xe R ?_))
       obtain rfl := Sj f
       obtain ⟨o, q, w, n, d⟩ := E5 (Cx.s d [1, 2, 3, 4]) o q w n d
       have x := x.px [1, 2, 3]
       exact Kt ⟨(am, if 1000000000 < (i64.wrap (v + (i64.wrap (Int.tdiv (i64.wrap ((i64.wrap ((i64.wrap ((i64.wrap (2000 * g.2.1)) + a.1)) + c.1)) - 1)) (i64.wrap (a.1 + c.1)))))) then 1000000000 else (i64.wrap (v + (i64.wrap (Int.tdiv (i64.wrap ((i64.wrap ((i64.wrap ((i64.wrap (2000 * g.2.1)) + a.1)) + c.1)) - 1)) (i64.wrap (a.1 + c.1)))))), if (i64.wrap ((i64.wrap (k + h.1)) - g.2.2.2.2)) > (if (i64.wrap (i * i)) < (i64.wrap (k + h.1)) then (i64.wrap (i * i)) else (i64.wrap (k + h.1))) then (i64.wrap ((i64.wrap (k + h.1)) - g.2.2.2.2)) else (if (i64.wrap (i * i)) < (i64.wrap (k + h.1)) then (i64.wrap (i * i)) else (i64.wrap (k + h.1))), (C ++ ([(if 1000000000 < (i64.wrap (v + (i64.wrap (Int.tdiv (i64.wrap ((i64.wrap ((i64.wrap ((i64.wrap (2000 * g.2.1)) + a.1)) + c.1)) - 1)) (i64.wrap (a.1 + c.1)))))) then 1000000000 else (i64.wrap (v + (i64.wrap (Int.tdiv (i64.wrap ((i64.wrap ((i64.wrap ((i64.wrap (2000 * g.2.1)) + a.1)) + c.1)) - 1)) (i64.wrap (a.1 + c.1)))))), if (i64.wrap ((i64.wrap (k + h.1)) - g.2.2.2.2)) > (if (i64.wrap (i * i)) < (i64.wrap (k + h.1)) then (i64.wrap (i * i)) else (i64.wrap (k + h.1))) then (i64.wrap ((i64.wrap (k + h.1)) - g.2.2.2.2)) else (if (i64.wrap (i * i)) < (i64.wrap (k + h.1)) then (i64.wrap (i * i)) else (i64.wrap (k + h.1))))] : List (Int × Int))), i64.wrap (K + 1), i64.wrap (B + 1), aA, aC), ⟨R, R, R, R, R, R, R, T0⟩, ⟨ai, m, d, x, o, q, r, t, w, n⟩, Ns _⟩
     refine Ck (Kt (Cp (Xu 3 [(155, Vi K), (156, Vi (i64.wrap (K + 1))), (12, Vi (i64.wrap (K + 1)))] (Xk (Cp (Xu 1 [(157, Vl y C F)] (Yl _ _ R (Ra 0 [Vi (if 1000000000 < (i64.wrap (v + (i64.wrap (Int.tdiv (i64.wrap ((i64.wrap ((i64.wrap ((i64.wrap (2000 * g.2.1)) + a.1)) + c.1)) - 1)) (i64.wrap (a.1 + c.1)))))) then 1000000000 else (i64.wrap (v + (i64.wrap (Int.tdiv (i64.wrap ((i64.wrap ((i64.wrap ((i64.wrap (2000 * g.2.1)) + a.1)) + c.1)) - 1)) (i64.wrap (a.1 + c.1))))))), Vi (i64.wrap (k + h.1))] tagg66 t nn R) (Xh #[Vi (if 1000000000 < (i64.wrap (v + (i64.wrap (Int.tdiv (i64.wrap ((i64.wrap ((i64.wrap ((i64.wrap (2000 * g.2.1)) + a.1)) + c.1)) - 1)) (i64.wrap (a.1 + c.1)))))) then 1000000000 else (i64.wrap (v + (i64.wrap (Int.tdiv (i64.wrap ((i64.wrap ((i64.wrap ((i64.wrap (2000 * g.2.1)) + a.1)) + c.1)) - 1)) (i64.wrap (a.1 + c.1))))))), Vi (i64.wrap (k + h.1))] 66 R (fun ck cD bK bs bF => ?_)))))))))
     have S := Cx.e d bF
     obtain ⟨r, o, q, t, w, n, d, m⟩ := E8 S r o q t w n d m
     have b1 := S.l (e := (eProd eI eI)) bK bs 1 [(if 1000000000 < (i64.wrap (v + (i64.wrap (Int.tdiv (i64.wrap ((i64.wrap ((i64.wrap ((i64.wrap (2000 * g.2.1)) + a.1)) + c.1)) - 1)) (i64.wrap (a.1 + c.1)))))) then 1000000000 else (i64.wrap (v + (i64.wrap (Int.tdiv (i64.wrap ((i64.wrap ((i64.wrap ((i64.wrap (2000 * g.2.1)) + a.1)) + c.1)) - 1)) (i64.wrap (a.1 + c.1)))))), i64.wrap (k + h.1))]
     have ar := Gl f
     have f := Gr f
     obtain ⟨aL, aO, cE, bY, a3, a7, cn, b5⟩ := own_appendN tel58 58 w (Mf 3 R) b1 ar
     refine Xx R (Rn bY) ?_
     have S := Cx.u d 3 a3 a7
     obtain ⟨r, o, q, t, n, d⟩ := E6 S r o q t n d
     have aq := x.ux 3 m a7
     have m := m.th a3 x 3
     have x := aq
     have w := b5 _ S.st.new
     refine Xu 1 [(11, Vl aL ((C ++ ([(if 1000000000 < (i64.wrap (v + (i64.wrap (Int.tdiv (i64.wrap ((i64.wrap ((i64.wrap ((i64.wrap (2000 * g.2.1)) + a.1)) + c.1)) - 1)) (i64.wrap (a.1 + c.1)))))) then 1000000000 else (i64.wrap (v + (i64.wrap (Int.tdiv (i64.wrap ((i64.wrap ((i64.wrap ((i64.wrap (2000 * g.2.1)) + a.1)) + c.1)) - 1)) (i64.wrap (a.1 + c.1)))))), i64.wrap (k + h.1))] : List (Int × Int)))) aO)] (Xe R (Kl (Kt (Cp (Xu 2 [(161, Vi (i64.wrap (B + 1))), (72, Vi (i64.wrap (B + 1)))] (Xe R ?_))))))
     obtain rfl := Sj f
     obtain ⟨o, q, w, n, d⟩ := E5 (Cx.s d [1, 2, 3, 4]) o q w n d
     have x := x.px [1, 2, 3]
     exact Kt ⟨(am, if 1000000000 < (i64.wrap (v + (i64.wrap (Int.tdiv (i64.wrap ((i64.wrap ((i64.wrap ((i64.wrap (2000 * g.2.1)) + a.1)) + c.1)) - 1)) (i64.wrap (a.1 + c.1)))))) then 1000000000 else (i64.wrap (v + (i64.wrap (Int.tdiv (i64.wrap ((i64.wrap ((i64.wrap ((i64.wrap (2000 * g.2.1)) + a.1)) + c.1)) - 1)) (i64.wrap (a.1 + c.1)))))), i64.wrap (k + h.1), (C ++ ([(if 1000000000 < (i64.wrap (v + (i64.wrap (Int.tdiv (i64.wrap ((i64.wrap ((i64.wrap ((i64.wrap (2000 * g.2.1)) + a.1)) + c.1)) - 1)) (i64.wrap (a.1 + c.1)))))) then 1000000000 else (i64.wrap (v + (i64.wrap (Int.tdiv (i64.wrap ((i64.wrap ((i64.wrap ((i64.wrap (2000 * g.2.1)) + a.1)) + c.1)) - 1)) (i64.wrap (a.1 + c.1)))))), i64.wrap (k + h.1))] : List (Int × Int))), i64.wrap (K + 1), i64.wrap (B + 1), aL, aO), ⟨R, R, R, R, R, R, R, T0⟩, ⟨ai, m, d, x, o, q, r, t, w, n⟩, Ns _⟩
   refine Ck (Kt (Cp (Xu 1 [(157, Vl y C F)] (Yl _ _ R (Ra 0 [Vi (if 1000000000 < (i64.wrap (v + (i64.wrap (Int.tdiv (i64.wrap ((i64.wrap ((i64.wrap ((i64.wrap (2000 * g.2.1)) + a.1)) + c.1)) - 1)) (i64.wrap (a.1 + c.1)))))) then 1000000000 else (i64.wrap (v + (i64.wrap (Int.tdiv (i64.wrap ((i64.wrap ((i64.wrap ((i64.wrap (2000 * g.2.1)) + a.1)) + c.1)) - 1)) (i64.wrap (a.1 + c.1))))))), Vi (i64.wrap (k + h.1))] tagg66 t nn R) (Xh #[Vi (if 1000000000 < (i64.wrap (v + (i64.wrap (Int.tdiv (i64.wrap ((i64.wrap ((i64.wrap ((i64.wrap (2000 * g.2.1)) + a.1)) + c.1)) - 1)) (i64.wrap (a.1 + c.1)))))) then 1000000000 else (i64.wrap (v + (i64.wrap (Int.tdiv (i64.wrap ((i64.wrap ((i64.wrap ((i64.wrap (2000 * g.2.1)) + a.1)) + c.1)) - 1)) (i64.wrap (a.1 + c.1))))))), Vi (i64.wrap (k + h.1))] 66 R (fun cl cF bL bt bG => ?_))))))
   have S := Cx.e d bG
   obtain ⟨r, o, q, t, w, n, d, m⟩ := E8 S r o q t w n d m
   have b2 := S.l (e := (eProd eI eI)) bL bt 1 [(if 1000000000 < (i64.wrap (v + (i64.wrap (Int.tdiv (i64.wrap ((i64.wrap ((i64.wrap ((i64.wrap (2000 * g.2.1)) + a.1)) + c.1)) - 1)) (i64.wrap (a.1 + c.1)))))) then 1000000000 else (i64.wrap (v + (i64.wrap (Int.tdiv (i64.wrap ((i64.wrap ((i64.wrap ((i64.wrap (2000 * g.2.1)) + a.1)) + c.1)) - 1)) (i64.wrap (a.1 + c.1)))))), i64.wrap (k + h.1))]
   have ar := Gl f
   have f := Gr f
   obtain ⟨aB, aD, cG, bZ, a4, a8, co, b6⟩ := own_appendN tel58 58 w (Mf 3 R) b2 ar
   refine Xx R (Rn bZ) ?_
   have S := Cx.u d 3 a4 a8
   obtain ⟨r, o, q, t, n, d⟩ := E6 S r o q t n d
   have aq := x.ux 3 m a8
   have m := m.th a4 x 3
   have x := aq
   have w := b6 _ S.st.new
   refine Xu 1 [(11, Vl aB ((C ++ ([(if 1000000000 < (i64.wrap (v + (i64.wrap (Int.tdiv (i64.wrap ((i64.wrap ((i64.wrap ((i64.wrap (2000 * g.2.1)) + a.1)) + c.1)) - 1)) (i64.wrap (a.1 + c.1)))))) then 1000000000 else (i64.wrap (v + (i64.wrap (Int.tdiv (i64.wrap ((i64.wrap ((i64.wrap ((i64.wrap (2000 * g.2.1)) + a.1)) + c.1)) - 1)) (i64.wrap (a.1 + c.1)))))), i64.wrap (k + h.1))] : List (Int × Int)))) aD)] (Xe R (Kl (Kt (Cn [(3, Vp A 0), (10, Vp D 0), (11, Vl aB ((C ++ ([(if 1000000000 < (i64.wrap (v + (i64.wrap (Int.tdiv (i64.wrap ((i64.wrap ((i64.wrap ((i64.wrap (2000 * g.2.1)) + a.1)) + c.1)) - 1)) (i64.wrap (a.1 + c.1)))))) then 1000000000 else (i64.wrap (v + (i64.wrap (Int.tdiv (i64.wrap ((i64.wrap ((i64.wrap ((i64.wrap (2000 * g.2.1)) + a.1)) + c.1)) - 1)) (i64.wrap (a.1 + c.1)))))), i64.wrap (k + h.1))] : List (Int × Int)))) aD), (12, Vi K), (70, Vl H z I), (71, Vi ((z).length : Int)), (72, Vi B)] (fun Z => ?_)))))
   refine Cp (Xu 2 [(161, Vi (i64.wrap (B + 1))), (72, Vi (i64.wrap (B + 1)))] (Xe R ?_))
   obtain rfl := Sj f
   obtain ⟨o, q, w, n, d⟩ := E5 (Cx.s d [1, 2, 3, 4]) o q w n d
   have x := x.px [1, 2, 3]
   exact Kt ⟨(am, if 1000000000 < (i64.wrap (v + (i64.wrap (Int.tdiv (i64.wrap ((i64.wrap ((i64.wrap ((i64.wrap (2000 * g.2.1)) + a.1)) + c.1)) - 1)) (i64.wrap (a.1 + c.1)))))) then 1000000000 else (i64.wrap (v + (i64.wrap (Int.tdiv (i64.wrap ((i64.wrap ((i64.wrap ((i64.wrap (2000 * g.2.1)) + a.1)) + c.1)) - 1)) (i64.wrap (a.1 + c.1)))))), i64.wrap (k + h.1), (C ++ ([(if 1000000000 < (i64.wrap (v + (i64.wrap (Int.tdiv (i64.wrap ((i64.wrap ((i64.wrap ((i64.wrap (2000 * g.2.1)) + a.1)) + c.1)) - 1)) (i64.wrap (a.1 + c.1)))))) then 1000000000 else (i64.wrap (v + (i64.wrap (Int.tdiv (i64.wrap ((i64.wrap ((i64.wrap ((i64.wrap (2000 * g.2.1)) + a.1)) + c.1)) - 1)) (i64.wrap (a.1 + c.1)))))), i64.wrap (k + h.1))] : List (Int × Int))), K, i64.wrap (B + 1), aB, aD), ⟨R, R, R, R, R, R, R, T0⟩, ⟨ai, m, d, x, o, q, r, t, w, n⟩, Ns _⟩
 refine Ce (Ke ?_)
 obtain rfl := Sj f
 have aj := Sj ai
 subst aj
 have f := aE
 refine Ke (Ki (Kt (Cn [(11, Vl y C F)] (fun Z => ?_))))
 refine Cs (Xu 4 [(162, Vl y C F), (4, Vl y C F), (5, Vi (-1)), (6, Vi 0)] (Xk (Cr (Rr (Rv [Vl y C F, Vi (-1), Vi 0] ⟨R, R, R, T0⟩ ?_)))))
 obtain rfl := Sj f
 have Q := d.pk [2, 3] [Bk y, G] R
 have aw := Pk (ls := [[A], [D], Bk y, G]) [2, 3] [Bk y, G] R
 have O := x.pk [2] [Bk y] R
 exact ⟨y, F, R, m, Q, O, w.sub aw⟩
def runoff_In (a : Int) (b : Int) (c : Int) (d : Int) (e : Int) (f : Int) (j : Bool) (g : Bool) : Option Bool :=
(if (!g) = true then
((interval_Contains c d a).bind fun h =>
(if h = true then
((interval_Contains e f b).bind fun i =>
some i)
else
some false))
else
some false)
theorem runoff_In_w (g h i j k l w f x r) (a : runoff_In g h i j k l w f = some x) : CallVC Tryz.prog 21 [.agg #[Vi g, Vi h], .agg #[Vi i, Vi j, Vi k, Vi l, .bool w, .bool f]] r fun q A => q = .bool x ∧ Ev [] r A := by
 refine Cw hmx Tryz.func21 R R R ?_
 have b := Ev.refl [] r
 refine Cs (Xo R (fun u F D c y => ?_))
 have b := b.ext y
 refine Xo R (fun d B E e v => ?_)
 have c := v.box c nn
 have b := b.ext v
 refine Xu 1 [(4, .bool false)] (Xk (Cs (Yg d 0 5 (.bool f) R R (Rf tfld68_3 _) tcell4 e nn R (Xu 2 [(7, .bool (!f)), (8, .bool (!f))] (Xw 8 _ R a (fun a => ?_) (fun a => ?_))))))
 · refine Yf (Vp d 0) (Vp d 0) R (Rf tfld68_0 _) (Yl _ _ R (Ra 0 [Vi i, Vi j] tagg39 e nn R) (Yg u 0 0 (Vi g) R R (Rf tfld66_0 _) tcell3 c nn R ?_))
   obtain ⟨s, p, a⟩ := Bs a
   have n := interval_Contains_w i j g _ B p
   refine Xv n R ?_
   rintro q C ⟨rfl, o⟩
   have c := o.box c nn
   have e := o.box e nn
   have b := b.ext o
   refine Xu 2 [(14, .bool s), (15, .bool s)] (Xw 15 s R a (fun a => ?_) (fun a => ?_))
   · refine Yf (Vp d 0) (Vp d 2) R (Rf tfld68_1 _) (Yl _ _ R (Ra 2 [Vi k, Vi l] tagg39 e nn R) (Yg u 0 1 (Vi h) R R (Rf tfld66_1 _) tcell3 c nn R ?_))
     obtain ⟨m, p, a⟩ := Bs a
     have n := interval_Contains_w k l h _ C p
     refine Xv n R ?_
     rintro q G ⟨rfl, z⟩
     have b := b.ext z
     refine Xu 2 [(21, .bool m), (4, .bool m)] (Xk (Cn [(4, .bool m)] (fun t => ?_)))
     refine Cr (Rz (.bool m) R ?_)
     obtain rfl := Sj a
     exact ⟨R, b⟩
   refine Xu 7 (Un 16 5 ++ [(21, .bool false), (4, .bool false)]) (Xk (Cn [(4, .bool false)] (fun t => ?_)))
   refine Cr (Rz (.bool false) R ?_)
   obtain rfl := Sj a
   exact ⟨R, b⟩
 refine Xu 14 (Un 9 5 ++ [(14, .bool false), (15, .bool false)] ++ Un 16 5 ++ [(21, .bool false), (4, .bool false)]) (Xk (Cn [(4, .bool false)] (fun t => ?_)))
 refine Cr (Rz (.bool false) R ?_)
 obtain rfl := Sj a
 exact ⟨R, b⟩
end Go.Proofs.YtlgdhajakblkaaaGreatDoor
