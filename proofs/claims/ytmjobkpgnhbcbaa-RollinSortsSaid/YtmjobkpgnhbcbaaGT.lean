/- Facts on the types of the translation, printed by program. No condition. -/
import Derived.Test.YtmjobkpgnhbcbaaH
import Derived.Test.YtmjobkpgnhbcbaaProg
import Derived.Test.YtmjobkpgnhbcbaaS
import Derived.Test.YtmjobkpgnhbcbaaL
set_option linter.unusedVariables false
set_option linter.unusedSimpArgs false
set_option maxRecDepth 4000
namespace Go.Proofs.Ytmjobkpgnhbcbaa
open Go Go.V Go.Proofs
theorem hmx : Try.prog.follows .mixedOrders = true := by kernel_rfl
theorem tcell3 : IsCell Try.prog 3 := fun w => ⟨by kernel_rfl, by kernel_rfl⟩
theorem tfld67_1 : IsField Try.prog 67 1 1 := fun ad w => by kernel_rfl
theorem tcell22 : IsCell Try.prog 22 := fun w => ⟨by kernel_rfl, by kernel_rfl⟩
theorem tsl22 : IsSlice Try.prog 22 3 1 := ⟨by kernel_rfl, fun w => by kernel_rfl⟩
theorem tfld67_0 : IsField Try.prog 67 0 0 := fun ad w => by kernel_rfl
theorem tel25 : IsElem Try.prog 25 39 4 32 (.agg #[.int .i64 0, .int .i64 0, .int .i64 0, .int .i64 0]) := ⟨by kernel_rfl, ⟨_, rfl, by kernel_rfl, by kernel_rfl, by kernel_rfl⟩, by kernel_rfl, rfl, rfl⟩
theorem tagg27 : IsAgg Try.prog 27 2 := fun w => ⟨by kernel_rfl, by kernel_rfl⟩
theorem tcell25 : IsCell Try.prog 25 := fun w => ⟨by kernel_rfl, by kernel_rfl⟩
theorem tsl25 : IsSlice Try.prog 25 39 4 := ⟨by kernel_rfl, fun w => by kernel_rfl⟩
theorem tagg39 : IsAgg Try.prog 39 4 := fun w => ⟨by kernel_rfl, by kernel_rfl⟩
theorem tfld39_2 : IsField Try.prog 39 2 2 := fun ad w => by kernel_rfl
theorem tfld27_0 : IsField Try.prog 27 0 0 := fun ad w => by kernel_rfl
theorem tfld39_3 : IsField Try.prog 39 3 3 := fun ad w => by kernel_rfl
theorem tfld39_1 : IsField Try.prog 39 1 1 := fun ad w => by kernel_rfl
theorem tfld39_0 : IsField Try.prog 39 0 0 := fun ad w => by kernel_rfl
theorem tfld27_1 : IsField Try.prog 27 1 1 := fun ad w => by kernel_rfl
theorem tel32 : IsElem Try.prog 32 22 1 24 (.slice none 0 0) := ⟨by kernel_rfl, ⟨_, rfl, by kernel_rfl, by kernel_rfl, by kernel_rfl⟩, by kernel_rfl, rfl, rfl⟩
theorem tel22 : IsElem Try.prog 22 3 1 8 (.int .i64 0) := ⟨by kernel_rfl, ⟨_, rfl, by kernel_rfl, by kernel_rfl, by kernel_rfl⟩, by kernel_rfl, rfl, rfl⟩
theorem tsl32 : IsSlice Try.prog 32 22 1 := ⟨by kernel_rfl, fun w => by kernel_rfl⟩
theorem tagg30 : IsAgg Try.prog 30 2 := fun w => ⟨by kernel_rfl, by kernel_rfl⟩
theorem tfld30_0 : IsField Try.prog 30 0 0 := fun ad w => by kernel_rfl
theorem tfld30_1 : IsField Try.prog 30 1 1 := fun ad w => by kernel_rfl
theorem tcell32 : IsCell Try.prog 32 := fun w => ⟨by kernel_rfl, by kernel_rfl⟩
theorem tfld73_3 : IsField Try.prog 73 3 5 := fun ad w => by kernel_rfl
theorem tfld73_2 : IsField Try.prog 73 2 4 := fun ad w => by kernel_rfl
theorem tfld73_1 : IsField Try.prog 73 1 2 := fun ad w => by kernel_rfl
theorem tfld73_0 : IsField Try.prog 73 0 0 := fun ad w => by kernel_rfl
theorem tfld73_4 : IsField Try.prog 73 4 6 := fun ad w => by kernel_rfl
theorem tfld73_5 : IsField Try.prog 73 5 7 := fun ad w => by kernel_rfl
theorem tagg34 : IsAgg Try.prog 34 2 := fun w => ⟨by kernel_rfl, by kernel_rfl⟩
theorem tfld34_1 : IsField Try.prog 34 1 1 := fun ad w => by kernel_rfl
theorem tfld34_0 : IsField Try.prog 34 0 0 := fun ad w => by kernel_rfl
theorem tel82 : IsElem Try.prog 82 4 1 1 (.bool false) := ⟨by kernel_rfl, ⟨_, rfl, by kernel_rfl, by kernel_rfl, by kernel_rfl⟩, by kernel_rfl, rfl, rfl⟩
theorem tsl82 : IsSlice Try.prog 82 4 1 := ⟨by kernel_rfl, fun w => by kernel_rfl⟩
theorem tcell4 : IsCell Try.prog 4 := fun w => ⟨by kernel_rfl, by kernel_rfl⟩
theorem tbool4 : Try.prog.underlying 4 = some .bool := by kernel_rfl
end Go.Proofs.Ytmjobkpgnhbcbaa
