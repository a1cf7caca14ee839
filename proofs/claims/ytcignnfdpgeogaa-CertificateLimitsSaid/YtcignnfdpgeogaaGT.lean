
/- Facts on the types of the translation, printed by program. No condition. -/
import Derived.Test.YtcignnfdpgeogaaH
import Derived.Test.YtcignnfdpgeogaaW
import Derived.Test.YtcignnfdpgeogaaQ
import Derived.Test.YtcignnfdpgeogaaProg
import Derived.Test.YtcignnfdpgeogaaS
import Derived.Test.YtcignnfdpgeogaaL
set_option linter.unusedVariables false
set_option linter.unusedSimpArgs false
set_option maxRecDepth 4000
namespace Go.Proofs.Ytcignnfdpgeogaa
open Go Go.V Go.Proofs
theorem hmx : Try.prog.follows .mixedOrders = true := by kernel_rfl
theorem tagg29 : IsAgg Try.prog 29 3 := fun w => ⟨by kernel_rfl, by kernel_rfl⟩
theorem tcell22 : IsCell Try.prog 22 := fun w => ⟨by kernel_rfl, by kernel_rfl⟩
theorem tcell3 : IsCell Try.prog 3 := fun w => ⟨by kernel_rfl, by kernel_rfl⟩
theorem tsl22 : IsSlice Try.prog 22 3 1 := ⟨by kernel_rfl, fun w => by kernel_rfl⟩
theorem tfld29_1 : IsField Try.prog 29 1 2 := fun ad w => by kernel_rfl
theorem tfld27_1 : IsField Try.prog 27 1 1 := fun ad w => by kernel_rfl
theorem tfld29_0 : IsField Try.prog 29 0 0 := fun ad w => by kernel_rfl
theorem tfld27_0 : IsField Try.prog 27 0 0 := fun ad w => by kernel_rfl
theorem tel46 : IsElem Try.prog 46 5 1 1 (.int .u8 0) := ⟨by kernel_rfl, ⟨_, rfl, by kernel_rfl, by kernel_rfl, by kernel_rfl⟩, by kernel_rfl, rfl, rfl⟩
theorem tcv3_5 (n : Int) (w : World) : (convert 3 5 (.int .i64 n)).run Try.prog w = .ok (.int .u8 (IntKind.u8.wrap n)) w := by kernel_rfl
theorem tagg25 : IsAgg Try.prog 25 2 := fun w => ⟨by kernel_rfl, by kernel_rfl⟩
theorem tcell23 : IsCell Try.prog 23 := fun w => ⟨by kernel_rfl, by kernel_rfl⟩
theorem tsl23 : IsSlice Try.prog 23 79 4 := ⟨by kernel_rfl, fun w => by kernel_rfl⟩
theorem tagg79 : IsAgg Try.prog 79 4 := fun w => ⟨by kernel_rfl, by kernel_rfl⟩
theorem tfld79_2 : IsField Try.prog 79 2 2 := fun ad w => by kernel_rfl
theorem tfld25_0 : IsField Try.prog 25 0 0 := fun ad w => by kernel_rfl
theorem tfld79_3 : IsField Try.prog 79 3 3 := fun ad w => by kernel_rfl
theorem tfld79_1 : IsField Try.prog 79 1 1 := fun ad w => by kernel_rfl
theorem tfld79_0 : IsField Try.prog 79 0 0 := fun ad w => by kernel_rfl
theorem tfld25_1 : IsField Try.prog 25 1 1 := fun ad w => by kernel_rfl
theorem tel42 : IsElem Try.prog 42 22 1 24 (.slice none 0 0) := ⟨by kernel_rfl, ⟨_, rfl, by kernel_rfl, by kernel_rfl, by kernel_rfl⟩, by kernel_rfl, rfl, rfl⟩
theorem tel22 : IsElem Try.prog 22 3 1 8 (.int .i64 0) := ⟨by kernel_rfl, ⟨_, rfl, by kernel_rfl, by kernel_rfl, by kernel_rfl⟩, by kernel_rfl, rfl, rfl⟩
theorem tsl42 : IsSlice Try.prog 42 22 1 := ⟨by kernel_rfl, fun w => by kernel_rfl⟩
theorem tagg27 : IsAgg Try.prog 27 2 := fun w => ⟨by kernel_rfl, by kernel_rfl⟩
theorem tsl46 : IsSlice Try.prog 46 5 1 := ⟨by kernel_rfl, fun w => by kernel_rfl⟩
theorem tcell5 : IsCell Try.prog 5 := fun w => ⟨by kernel_rfl, by kernel_rfl⟩
theorem tcv5_3 (n : Int) (w : World) : (convert 5 3 (.int .u8 n)).run Try.prog w = .ok (.int .i64 (IntKind.i64.wrap n)) w := by kernel_rfl
end Go.Proofs.Ytcignnfdpgeogaa
