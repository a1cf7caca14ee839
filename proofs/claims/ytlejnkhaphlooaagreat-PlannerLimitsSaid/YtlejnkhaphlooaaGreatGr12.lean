
/- Walks, printed by program: each function returns what the partial function of the same name returns. Conditions: those of each theorem. -/
import Derived.Test.YtlejnkhaphlooaaGreatGT
set_option linter.unusedVariables false
set_option linter.unusedSimpArgs false
set_option maxRecDepth 4000
namespace Go.Proofs.YtlejnkhaphlooaaGreat
open Go Go.V Go.Proofs
def r12_form (p0 : Int) (p1 : Int) : Option Bool :=
(if (decide (p0 ≥ 0)) = true then
(if (decide (p0 < 13)) = true then
(if (decide (p1 ≥ 0)) = true then
some (decide (p1 ≤ 12))
else
some false)
else
some false)
else
some false)
def r12_Is_L4 (s : Int × Int) : Option (Step (Int × Int) Int) :=
match s with
| (n_s7_l4, x_s8_l4) =>
(if (decide (x_s8_l4 > 0)) = true then
some (.next (IntKind.i64.wrap (n_s7_l4 + (Int.tmod x_s8_l4 2)), IntKind.i64.wrap (Int.tdiv x_s8_l4 2)))
else
some (.done n_s7_l4))
def r12_Is (p0 : Int) (p1 : Int) (p2 : Int) : Option Bool :=
((r12_form p1 p2).bind fun x2 =>
(if (!x2) = true then
some false
else
(if (decide (p0 < 0)) = true then
some false
else
(if (decide (p0 ≥ 4096)) = true then
some false
else
(if 0 ≤ p1 then
(if IntKind.i64.wrap (1 * 2 ^ (min (Int.toNat (p1)) IntKind.i64.bits)) ≠ 0 then
(if 0 ≤ p1 then
(if ((Int.tmod p0 (IntKind.i64.wrap (1 * 2 ^ (min (Int.toNat (p1)) IntKind.i64.bits)))) != (IntKind.i64.wrap ((IntKind.i64.wrap (1 * 2 ^ (min (Int.toNat (p1)) IntKind.i64.bits))) - 1))) = true then
some false
else
(if 0 ≤ p1 then
((loop r12_Is_L4 (0, Int.fdiv p0 (2 ^ (min (Int.toNat (p1)) IntKind.i64.bits)))).bind fun d => match d with
| n_s7_x4 => some (decide (n_s7_x4 ≤ p2)))
else none))
else none)
else none)
else none)))))
def r12_Next_L4 (p1 : Int) (p2 : Int) (s : Int) : Option (Step Int (Int ⊕ Unit)) :=
match s with
| k_s8_l4 =>
(if (decide (k_s8_l4 < 4096)) = true then
((r12_Is k_s8_l4 p1 p2).bind fun x6 =>
(if x6 = true then
some (.done (.inl k_s8_l4))
else
some (.next (IntKind.i64.wrap (k_s8_l4 + 1)))))
else
some (.done (.inr ())))
def r12_Next (p0 : Int) (p1 : Int) (p2 : Int) : Option (Int × Int) :=
((r12_form p1 p2).bind fun x2 =>
(if (!x2) = true then
some (0, 2)
else
(if (decide (p0 < 0)) = true then
some (0, 2)
else
((loop (r12_Next_L4 p1 p2) p0).bind fun d => match d with
| (.inl t6__s6_x400) => some (t6__s6_x400, 0)
| (.inr _) => some (0, 15)))))
end Go.Proofs.YtlejnkhaphlooaaGreat
