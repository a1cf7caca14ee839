
/- Walks, printed by program: each function returns what the partial function of the same name returns. Conditions: those of each theorem. -/
import Derived.Test.YtlgdhajakblkaaaGreatDoorGT
import Derived.Test.YtlgdhajakblkaaaGreatDoorGstringslite
set_option linter.unusedVariables false
set_option linter.unusedSimpArgs false
set_option maxRecDepth 4000
namespace Go.Proofs.YtlgdhajakblkaaaGreatDoor
open Go Go.V Go.Proofs Go.IntKind
def strings_TrimPrefix (a : List UInt8) (b : List UInt8) : Option (List UInt8) :=
((stringslite_TrimPrefix a b).bind fun c =>
some c)
theorem strings_TrimPrefix_w (a b f c) (d : strings_TrimPrefix a b = some f) : CallVC Tryz.prog 87 [Vs a, Vs b] c fun g l => g = Vs f ∧ Ev [] c l := by
 refine Cw hmx Tryz.func87 R R R ?_
 have e := Ev.refl [] c
 refine Cs (Xu 1 [(4, Vs ([] : List UInt8))] (Xk (Cs (Xu 2 [(5, Vs a), (6, Vs b)] ?_))))
 obtain ⟨h, k, d⟩ := Bs d
 have i := stringslite_TrimPrefix_w a b _ c k
 refine Xv i R ?_
 rintro g m ⟨rfl, j⟩
 have e := e.ext j
 refine Xu 1 [(4, Vs h)] (Xk (Cr (Rz (Vs h) R ?_)))
 obtain rfl := Sj d
 exact ⟨R, e⟩
def strings_CutSuffix (b : List UInt8) (c : List UInt8) : Option ((List UInt8) × Bool) :=
((stringslite_CutSuffix b c).bind fun a =>
some (a.1, a.2))
theorem strings_CutSuffix_w (b c g d) (e : strings_CutSuffix b c = some g) : CallVC Tryz.prog 89 [Vs b, Vs c] d fun h l => h = .tuple #[Vs g.1, .bool g.2] ∧ Ev [] d l := by
 refine Cw hmx Tryz.func89 R R R ?_
 have f := Ev.refl [] d
 refine Cs (Xu 2 [(4, Vs ([] : List UInt8)), (5, .bool false)] (Xk (Cs (Xu 2 [(6, Vs b), (7, Vs c)] ?_))))
 obtain ⟨a, k, e⟩ := Bs e
 have i := stringslite_CutSuffix_w b c _ d k
 refine Xv i R ?_
 rintro h m ⟨rfl, j⟩
 have f := f.ext j
 refine Xu 4 [(9, Vs a.1), (10, .bool a.2), (4, Vs a.1), (5, .bool a.2)] (Xk (Cr (Rr (Rv [Vs a.1, .bool a.2] ⟨R, R, T0⟩ ?_))))
 obtain rfl := Sj e
 exact ⟨R, f⟩
end Go.Proofs.YtlgdhajakblkaaaGreatDoor
