/- Facts on the types of the translation, printed by program. No condition. -/
import Derived.Test.YtjcikgeffhghkaaH
import Derived.Test.YtjcikgeffhghkaaProg
set_option linter.unusedVariables false
set_option maxRecDepth 4000
namespace Go.Proofs.Ytjcikgeffhghkaa
open Go Go.V Go.Proofs
theorem hmx : Try.prog.follows .mixedOrders = true := by kernel_rfl
theorem tcell22 : IsCell Try.prog 22 := fun w => ⟨by kernel_rfl, by kernel_rfl⟩
theorem tcell3 : IsCell Try.prog 3 := fun w => ⟨by kernel_rfl, by kernel_rfl⟩
theorem tsl22 : IsSlice Try.prog 22 3 1 := ⟨by kernel_rfl, fun w => by kernel_rfl⟩
theorem tfld41_1 : IsField Try.prog 41 1 1 := fun ad w => by kernel_rfl
theorem tfld41_0 : IsField Try.prog 41 0 0 := fun ad w => by kernel_rfl
theorem tel22 : IsElem Try.prog 22 3 1 8 (.int .i64 0) := ⟨by kernel_rfl, ⟨_, rfl, by kernel_rfl, by kernel_rfl, by kernel_rfl⟩, by kernel_rfl, rfl, rfl⟩
theorem tbool4 : Try.prog.underlying 4 = some .bool := by kernel_rfl
end Go.Proofs.Ytjcikgeffhghkaa
