
/- Walks, printed by program: each function returns what the partial function of the same name returns. Conditions: those of each theorem. -/
import Derived.Test.YtlgdhajakblkaaaGreatDoorGT
set_option linter.unusedVariables false
set_option linter.unusedSimpArgs false
set_option maxRecDepth 4000
namespace Go.Proofs.YtlgdhajakblkaaaGreatDoor
open Go Go.V Go.Proofs Go.IntKind
def stringslite_HasPrefix (b : List UInt8) (a : List UInt8) : Option Bool :=
(if (decide ((b.length : Int) ≥ (a.length : Int))) = true then
(if 0 ≤ ((0 : Int) : Int) ∧ ((0 : Int) : Int) ≤ ((a.length : Int) : Int) ∧ ((a.length : Int) : Int) ≤ (b.length : Int) then
some (((b.drop (Int.toNat (0 : Int))).take (Int.toNat (a.length : Int) - Int.toNat (0 : Int))) == a)
else none)
else
some false)
theorem stringslite_HasPrefix_w (b a f d) (c : stringslite_HasPrefix b a = some f) : CallVC Tryz.prog 139 [Vs b, Vs a] d fun h i => h = .bool f ∧ Ev [] d i := by
 refine Cw hmx Tryz.func139 R R R ?_
 have e := Ev.refl [] d
 refine Cs (Xu 1 [(4, .bool false)] (Xk (Cs (Xu 1 [(5, Vs b)] (Xn (vs := [Vs b]) (Vi (b.length : Int)) R R R (reads_slen tstr9 _) (Xu 1 [(7, Vs a)] (Xn (vs := [Vs a]) (Vi (a.length : Int)) R R R (reads_slen tstr9 _) (Xu 2 [(9, Bd ((b.length : Int) ≥ (a.length : Int))), (10, Bd ((b.length : Int) ≥ (a.length : Int)))] (Xw 10 _ R c (fun c => ?_) (fun c => ?_))))))))))
 · refine Xu 2 [(11, Vs b), (12, Vs a)] (Xn (vs := [Vs a]) (Vi (a.length : Int)) R R R (reads_slen tstr9 _) ?_)
   have g := Gl c
   have c := Gr c
   refine x_slice (xv := Vs b) (lv := none) (hv := (some (Vi (a.length : Int)))) (mv := none) (Vs ((b.drop (Int.toNat (0 : Int))).take (Int.toNat (a.length : Int) - Int.toNat (0 : Int)))) R R R R R R (reads_scut tstr9 _ none (some (a.length : Int)) g) (Xu 1 [(15, Vs a)] (x_binop (.bool (((b.drop (Int.toNat (0 : Int))).take (Int.toNat (a.length : Int) - Int.toNat (0 : Int))) == a)) (Vs ((b.drop (Int.toNat (0 : Int))).take (Int.toNat (a.length : Int) - Int.toNat (0 : Int)))) (Vs a) R R R R (bin_seq) (Xu 2 [(17, .bool (((b.drop (Int.toNat (0 : Int))).take (Int.toNat (a.length : Int) - Int.toNat (0 : Int))) == a)), (4, .bool (((b.drop (Int.toNat (0 : Int))).take (Int.toNat (a.length : Int) - Int.toNat (0 : Int))) == a))] (Xk (Cr (Rz (.bool (((b.drop (Int.toNat (0 : Int))).take (Int.toNat (a.length : Int) - Int.toNat (0 : Int))) == a)) R ?_))))))
   obtain rfl := Sj c
   exact ⟨R, e⟩
 refine Xu 8 [(11, U0), (12, U0), (13, U0), (14, U0), (15, U0), (16, U0), (17, .bool false), (4, .bool false)] (Xk (Cr (Rz (.bool false) R ?_)))
 obtain rfl := Sj c
 exact ⟨R, e⟩
def stringslite_TrimPrefix (a : List UInt8) (b : List UInt8) : Option (List UInt8) :=
((stringslite_HasPrefix a b).bind fun c =>
(if c = true then
(if 0 ≤ ((b.length : Int) : Int) ∧ ((b.length : Int) : Int) ≤ ((a.length : Int) : Int) ∧ ((a.length : Int) : Int) ≤ (a.length : Int) then
some ((a.drop (Int.toNat (b.length : Int))).take (Int.toNat (a.length : Int) - Int.toNat (b.length : Int)))
else none)
else
some a))
theorem stringslite_TrimPrefix_w (a b f e) (c : stringslite_TrimPrefix a b = some f) : CallVC Tryz.prog 111 [Vs a, Vs b] e fun g l => g = Vs f ∧ Ev [] e l := by
 refine Cw hmx Tryz.func111 R R R ?_
 have d := Ev.refl [] e
 refine Cs (Xu 1 [(4, Vs ([] : List UInt8))] (Xk (Cq (Cs (Xu 2 [(5, Vs a), (6, Vs b)] ?_)))))
 obtain ⟨m, k, c⟩ := Bs c
 have h := stringslite_HasPrefix_w a b _ e k
 refine Xv h R ?_
 rintro g n ⟨rfl, i⟩
 have d := d.ext i
 refine Xk (Ci m R c (fun c => ?_) (fun c => ?_))
 · refine Cs (Xu 2 [(8, Vs a), (9, Vs b)] (Xn (vs := [Vs b]) (Vi (b.length : Int)) R R R (reads_slen tstr9 _) ?_))
   have j := Gl c
   have c := Gr c
   refine x_slice (xv := Vs a) (lv := (some (Vi (b.length : Int)))) (hv := none) (mv := none) (Vs ((a.drop (Int.toNat (b.length : Int))).take (Int.toNat (a.length : Int) - Int.toNat (b.length : Int)))) R R R R R R (reads_scut tstr9 _ (some (b.length : Int)) none j) (Xu 1 [(4, Vs ((a.drop (Int.toNat (b.length : Int))).take (Int.toNat (a.length : Int) - Int.toNat (b.length : Int))))] (Xk (Cr (Kr (Rz (Vs ((a.drop (Int.toNat (b.length : Int))).take (Int.toNat (a.length : Int) - Int.toNat (b.length : Int)))) R ?_)))))
   obtain rfl := Sj c
   exact ⟨R, d⟩
 refine Ck (Kt (Cs (Xu 2 [(12, Vs a), (4, Vs a)] (Xk (Cr (Rz (Vs a) R ?_))))))
 obtain rfl := Sj c
 exact ⟨R, d⟩
def stringslite_HasSuffix (a : List UInt8) (b : List UInt8) : Option Bool :=
(if (decide ((a.length : Int) ≥ (b.length : Int))) = true then
(if 0 ≤ (i64.wrap ((a.length : Int) - (b.length : Int)) : Int) ∧ (i64.wrap ((a.length : Int) - (b.length : Int)) : Int) ≤ ((a.length : Int) : Int) ∧ ((a.length : Int) : Int) ≤ (a.length : Int) then
some (((a.drop (Int.toNat (i64.wrap ((a.length : Int) - (b.length : Int))))).take (Int.toNat (a.length : Int) - Int.toNat (i64.wrap ((a.length : Int) - (b.length : Int))))) == b)
else none)
else
some false)
theorem stringslite_HasSuffix_w (a b f d) (c : stringslite_HasSuffix a b = some f) : CallVC Tryz.prog 145 [Vs a, Vs b] d fun h i => h = .bool f ∧ Ev [] d i := by
 refine Cw hmx Tryz.func145 R R R ?_
 have e := Ev.refl [] d
 refine Cs (Xu 1 [(4, .bool false)] (Xk (Cs (Xu 1 [(5, Vs a)] (Xn (vs := [Vs a]) (Vi (a.length : Int)) R R R (reads_slen tstr9 _) (Xu 1 [(7, Vs b)] (Xn (vs := [Vs b]) (Vi (b.length : Int)) R R R (reads_slen tstr9 _) (Xu 2 [(9, Bd ((a.length : Int) ≥ (b.length : Int))), (10, Bd ((a.length : Int) ≥ (b.length : Int)))] (Xw 10 _ R c (fun c => ?_) (fun c => ?_))))))))))
 · refine Xu 2 [(11, Vs a), (12, Vs a)] (Xn (vs := [Vs a]) (Vi (a.length : Int)) R R R (reads_slen tstr9 _) (Xu 1 [(14, Vs b)] (Xn (vs := [Vs b]) (Vi (b.length : Int)) R R R (reads_slen tstr9 _) (Xu 1 [(16, Vi (i64.wrap ((a.length : Int) - (b.length : Int))))] ?_))))
   have g := Gl c
   have c := Gr c
   refine x_slice (xv := Vs a) (lv := (some (Vi (i64.wrap ((a.length : Int) - (b.length : Int)))))) (hv := none) (mv := none) (Vs ((a.drop (Int.toNat (i64.wrap ((a.length : Int) - (b.length : Int))))).take (Int.toNat (a.length : Int) - Int.toNat (i64.wrap ((a.length : Int) - (b.length : Int)))))) R R R R R R (reads_scut tstr9 _ (some (i64.wrap ((a.length : Int) - (b.length : Int)))) none g) (Xu 1 [(18, Vs b)] (x_binop (.bool (((a.drop (Int.toNat (i64.wrap ((a.length : Int) - (b.length : Int))))).take (Int.toNat (a.length : Int) - Int.toNat (i64.wrap ((a.length : Int) - (b.length : Int))))) == b)) (Vs ((a.drop (Int.toNat (i64.wrap ((a.length : Int) - (b.length : Int))))).take (Int.toNat (a.length : Int) - Int.toNat (i64.wrap ((a.length : Int) - (b.length : Int)))))) (Vs b) R R R R (bin_seq) (Xu 2 [(20, .bool (((a.drop (Int.toNat (i64.wrap ((a.length : Int) - (b.length : Int))))).take (Int.toNat (a.length : Int) - Int.toNat (i64.wrap ((a.length : Int) - (b.length : Int))))) == b)), (4, .bool (((a.drop (Int.toNat (i64.wrap ((a.length : Int) - (b.length : Int))))).take (Int.toNat (a.length : Int) - Int.toNat (i64.wrap ((a.length : Int) - (b.length : Int))))) == b))] (Xk (Cr (Rz (.bool (((a.drop (Int.toNat (i64.wrap ((a.length : Int) - (b.length : Int))))).take (Int.toNat (a.length : Int) - Int.toNat (i64.wrap ((a.length : Int) - (b.length : Int))))) == b)) R ?_))))))
   obtain rfl := Sj c
   exact ⟨R, e⟩
 refine Xu 11 [(11, U0), (12, U0), (13, U0), (14, U0), (15, U0), (16, U0), (17, U0), (18, U0), (19, U0), (20, .bool false), (4, .bool false)] (Xk (Cr (Rz (.bool false) R ?_)))
 obtain rfl := Sj c
 exact ⟨R, e⟩
def stringslite_CutSuffix (a : List UInt8) (b : List UInt8) : Option ((List UInt8) × Bool) :=
((stringslite_HasSuffix a b).bind fun c =>
(if (!c) = true then
some (a, false)
else
(if 0 ≤ ((0 : Int) : Int) ∧ ((0 : Int) : Int) ≤ (i64.wrap ((a.length : Int) - (b.length : Int)) : Int) ∧ (i64.wrap ((a.length : Int) - (b.length : Int)) : Int) ≤ (a.length : Int) then
some (((a.drop (Int.toNat (0 : Int))).take (Int.toNat (i64.wrap ((a.length : Int) - (b.length : Int))) - Int.toNat (0 : Int))), true)
else none)))
theorem stringslite_CutSuffix_w (a b f e) (c : stringslite_CutSuffix a b = some f) : CallVC Tryz.prog 114 [Vs a, Vs b] e fun g l => g = .tuple #[Vs f.1, .bool f.2] ∧ Ev [] e l := by
 refine Cw hmx Tryz.func114 R R R ?_
 have d := Ev.refl [] e
 refine Cs (Xu 2 [(4, Vs ([] : List UInt8)), (5, .bool false)] (Xk (Cq (Cs (Xu 2 [(6, Vs a), (7, Vs b)] ?_)))))
 obtain ⟨m, k, c⟩ := Bs c
 have h := stringslite_HasSuffix_w a b _ e k
 refine Xv h R ?_
 rintro g n ⟨rfl, i⟩
 have d := d.ext i
 refine Xu 1 [(9, .bool (!m))] (Xk (Ci _ R c (fun c => ?_) (fun c => ?_)))
 · refine Cs (Xu 3 [(10, Vs a), (4, Vs a), (5, .bool false)] (Xk (Cr (Kr (Rr (Rv [Vs a, .bool false] ⟨R, R, T0⟩ ?_))))))
   obtain rfl := Sj c
   exact ⟨R, d⟩
 refine Ck (Kt (Cs (Xu 2 [(11, Vs a), (12, Vs a)] (Xn (vs := [Vs a]) (Vi (a.length : Int)) R R R (reads_slen tstr9 _) (Xu 1 [(14, Vs b)] (Xn (vs := [Vs b]) (Vi (b.length : Int)) R R R (reads_slen tstr9 _) (Xu 1 [(16, Vi (i64.wrap ((a.length : Int) - (b.length : Int))))] ?_)))))))
 have j := Gl c
 have c := Gr c
 refine x_slice (xv := Vs a) (lv := none) (hv := (some (Vi (i64.wrap ((a.length : Int) - (b.length : Int)))))) (mv := none) (Vs ((a.drop (Int.toNat (0 : Int))).take (Int.toNat (i64.wrap ((a.length : Int) - (b.length : Int))) - Int.toNat (0 : Int)))) R R R R R R (reads_scut tstr9 _ none (some (i64.wrap ((a.length : Int) - (b.length : Int)))) j) (Xu 2 [(4, Vs ((a.drop (Int.toNat (0 : Int))).take (Int.toNat (i64.wrap ((a.length : Int) - (b.length : Int))) - Int.toNat (0 : Int)))), (5, .bool true)] (Xk (Cr (Rr (Rv [Vs ((a.drop (Int.toNat (0 : Int))).take (Int.toNat (i64.wrap ((a.length : Int) - (b.length : Int))) - Int.toNat (0 : Int))), .bool true] ⟨R, R, T0⟩ ?_)))))
 obtain rfl := Sj c
 exact ⟨R, d⟩
end Go.Proofs.YtlgdhajakblkaaaGreatDoor
