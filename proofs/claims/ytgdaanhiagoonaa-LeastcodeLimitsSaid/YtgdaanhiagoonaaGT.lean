/- Facts on the types of the translation, printed by program. No condition. -/
import Derived.Test.YtgdaanhiagoonaaH
import Derived.Test.YtgdaanhiagoonaaProg
import Derived.Test.YtgdaanhiagoonaaS
import Derived.Test.YtgdaanhiagoonaaL
set_option linter.unusedVariables false
set_option linter.unusedSimpArgs false
set_option maxRecDepth 4000
namespace Go.Proofs.Ytgdaanhiagoonaa
open Go Go.V Go.Proofs
theorem hmx : Try.prog.follows .mixedOrders = true := by kernel_rfl
theorem tcell22 : IsCell Try.prog 22 := fun w => ⟨by kernel_rfl, by kernel_rfl⟩
theorem tcell3 : IsCell Try.prog 3 := fun w => ⟨by kernel_rfl, by kernel_rfl⟩
theorem tsl22 : IsSlice Try.prog 22 26 4 := ⟨by kernel_rfl, fun w => by kernel_rfl⟩
theorem tagg26 : IsAgg Try.prog 26 4 := fun w => ⟨by kernel_rfl, by kernel_rfl⟩
theorem tfld26_2 : IsField Try.prog 26 2 2 := fun ad w => by kernel_rfl
theorem tfld24_0 : IsField Try.prog 24 0 0 := fun ad w => by kernel_rfl
theorem tfld26_3 : IsField Try.prog 26 3 3 := fun ad w => by kernel_rfl
theorem tfld26_1 : IsField Try.prog 26 1 1 := fun ad w => by kernel_rfl
theorem tfld26_0 : IsField Try.prog 26 0 0 := fun ad w => by kernel_rfl
theorem tfld24_1 : IsField Try.prog 24 1 1 := fun ad w => by kernel_rfl
theorem tel57 : IsElem Try.prog 57 27 1 24 (.slice none 0 0) := ⟨by kernel_rfl, ⟨_, rfl, by kernel_rfl, by kernel_rfl, by kernel_rfl⟩, by kernel_rfl, rfl, rfl⟩
theorem tel27 : IsElem Try.prog 27 3 1 8 (.int .i64 0) := ⟨by kernel_rfl, ⟨_, rfl, by kernel_rfl, by kernel_rfl, by kernel_rfl⟩, by kernel_rfl, rfl, rfl⟩
theorem tsl57 : IsSlice Try.prog 57 27 1 := ⟨by kernel_rfl, fun w => by kernel_rfl⟩
theorem tcell27 : IsCell Try.prog 27 := fun w => ⟨by kernel_rfl, by kernel_rfl⟩
theorem tsl27 : IsSlice Try.prog 27 3 1 := ⟨by kernel_rfl, fun w => by kernel_rfl⟩
theorem tagg24 : IsAgg Try.prog 24 2 := fun w => ⟨by kernel_rfl, by kernel_rfl⟩
theorem tagg29 : IsAgg Try.prog 29 2 := fun w => ⟨by kernel_rfl, by kernel_rfl⟩
theorem tfld29_0 : IsField Try.prog 29 0 0 := fun ad w => by kernel_rfl
theorem tfld29_1 : IsField Try.prog 29 1 1 := fun ad w => by kernel_rfl
theorem tel22 : IsElem Try.prog 22 26 4 32 (.agg #[.int .i64 0, .int .i64 0, .int .i64 0, .int .i64 0]) := ⟨by kernel_rfl, ⟨_, rfl, by kernel_rfl, by kernel_rfl, by kernel_rfl⟩, by kernel_rfl, rfl, rfl⟩
theorem tfld62_1 : IsField Try.prog 62 1 1 := fun ad w => by kernel_rfl
theorem tfld62_0 : IsField Try.prog 62 0 0 := fun ad w => by kernel_rfl
end Go.Proofs.Ytgdaanhiagoonaa
