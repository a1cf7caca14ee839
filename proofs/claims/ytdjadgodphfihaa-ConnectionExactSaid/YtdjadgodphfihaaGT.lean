/- Facts on the types of the translation, printed by program. No condition. -/
import Derived.Test.YtdjadgodphfihaaH
import Derived.Test.YtdjadgodphfihaaW
import Derived.Test.YtdjadgodphfihaaProg
import Derived.Test.YtdjadgodphfihaaS
import Derived.Test.YtdjadgodphfihaaL
set_option linter.unusedVariables false
set_option linter.unusedSimpArgs false
set_option maxRecDepth 4000
namespace Go.Proofs.Ytdjadgodphfihaa
open Go Go.V Go.Proofs
theorem hmx : Try.prog.follows .mixedOrders = true := by kernel_rfl
theorem tcell3 : IsCell Try.prog 3 := fun w => ⟨by kernel_rfl, by kernel_rfl⟩
theorem tfld45_1 : IsField Try.prog 45 1 1 := fun ad w => by kernel_rfl
theorem tcell22 : IsCell Try.prog 22 := fun w => ⟨by kernel_rfl, by kernel_rfl⟩
theorem tsl22 : IsSlice Try.prog 22 3 1 := ⟨by kernel_rfl, fun w => by kernel_rfl⟩
theorem tfld45_0 : IsField Try.prog 45 0 0 := fun ad w => by kernel_rfl
theorem tagg24 : IsAgg Try.prog 24 5 := fun w => ⟨by kernel_rfl, by kernel_rfl⟩
theorem tel22 : IsElem Try.prog 22 3 1 8 (.int .i64 0) := ⟨by kernel_rfl, ⟨_, rfl, by kernel_rfl, by kernel_rfl, by kernel_rfl⟩, by kernel_rfl, rfl, rfl⟩
theorem tfld24_2 : IsField Try.prog 24 2 2 := fun ad w => by kernel_rfl
theorem tfld24_4 : IsField Try.prog 24 4 4 := fun ad w => by kernel_rfl
theorem tfld24_3 : IsField Try.prog 24 3 3 := fun ad w => by kernel_rfl
theorem tfld24_1 : IsField Try.prog 24 1 1 := fun ad w => by kernel_rfl
theorem tfld24_0 : IsField Try.prog 24 0 0 := fun ad w => by kernel_rfl
theorem tbool4 : Try.prog.underlying 4 = some .bool := by kernel_rfl
end Go.Proofs.Ytdjadgodphfihaa
