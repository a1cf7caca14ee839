
/- Facts on the types of the translation, printed by program. No condition. -/
import Derived.Test.YtgeceohdppecgaaH
import Derived.Test.YtgeceohdppecgaaW
import Derived.Test.YtgeceohdppecgaaQ
import Derived.Test.YtgeceohdppecgaaProg
import Derived.Test.YtgeceohdppecgaaS
import Derived.Test.YtgeceohdppecgaaL
import Derived.Test.YtgeceohdppecgaaD
set_option linter.unusedVariables false
set_option linter.unusedSimpArgs false
set_option maxRecDepth 4000
namespace Go.Proofs.Ytgeceohdppecgaa
open Go Go.V Go.Proofs
theorem hmx : Try.prog.follows .mixedOrders = true := by kernel_rfl
theorem tcell3 : IsCell Try.prog 3 := fun w => ⟨by kernel_rfl, by kernel_rfl⟩
theorem tfld52_1 : IsField Try.prog 52 1 1 := fun ad w => by kernel_rfl
theorem tcell22 : IsCell Try.prog 22 := fun w => ⟨by kernel_rfl, by kernel_rfl⟩
theorem tsl22 : IsSlice Try.prog 22 3 1 := ⟨by kernel_rfl, fun w => by kernel_rfl⟩
theorem tfld52_0 : IsField Try.prog 52 0 0 := fun ad w => by kernel_rfl
theorem tel56 : IsElem Try.prog 56 4 1 1 (.bool false) := ⟨by kernel_rfl, ⟨_, rfl, by kernel_rfl, by kernel_rfl, by kernel_rfl⟩, by kernel_rfl, rfl, rfl⟩
theorem tsl26 : IsSlice Try.prog 26 22 1 := ⟨by kernel_rfl, fun w => by kernel_rfl⟩
theorem tsl56 : IsSlice Try.prog 56 4 1 := ⟨by kernel_rfl, fun w => by kernel_rfl⟩
theorem tcell4 : IsCell Try.prog 4 := fun w => ⟨by kernel_rfl, by kernel_rfl⟩
theorem tsl25 : IsSlice Try.prog 25 45 2 := ⟨by kernel_rfl, fun w => by kernel_rfl⟩
theorem tfld45_1 : IsField Try.prog 45 1 1 := fun ad w => by kernel_rfl
theorem tel25 : IsElem Try.prog 25 45 2 24 (.agg #[Vs ([] : List UInt8), .int .i64 0]) := ⟨by kernel_rfl, ⟨_, rfl, by kernel_rfl, by kernel_rfl, by kernel_rfl⟩, by kernel_rfl, rfl, rfl⟩
theorem tel26 : IsElem Try.prog 26 22 1 24 (.slice none 0 0) := ⟨by kernel_rfl, ⟨_, rfl, by kernel_rfl, by kernel_rfl, by kernel_rfl⟩, by kernel_rfl, rfl, rfl⟩
theorem tel22 : IsElem Try.prog 22 3 1 8 (.int .i64 0) := ⟨by kernel_rfl, ⟨_, rfl, by kernel_rfl, by kernel_rfl, by kernel_rfl⟩, by kernel_rfl, rfl, rfl⟩
theorem tagg30 : IsAgg Try.prog 30 4 := fun w => ⟨by kernel_rfl, by kernel_rfl⟩
theorem tfld30_1 : IsField Try.prog 30 1 1 := fun ad w => by kernel_rfl
theorem tfld30_0 : IsField Try.prog 30 0 0 := fun ad w => by kernel_rfl
theorem tagg45 : IsAgg Try.prog 45 2 := fun w => ⟨by kernel_rfl, by kernel_rfl⟩
theorem tuns22 : Try.prog.underlying 22 = some (.slice 3) := by kernel_rfl
theorem tfld30_2 : IsField Try.prog 30 2 2 := fun ad w => by kernel_rfl
theorem tfld30_3 : IsField Try.prog 30 3 3 := fun ad w => by kernel_rfl
theorem tsl41 : IsSlice Try.prog 41 30 4 := ⟨by kernel_rfl, fun w => by kernel_rfl⟩
theorem tel41 : IsElem Try.prog 41 30 4 32 (.agg #[.int .i64 0, .int .i64 0, .int .i64 0, .bool false]) := ⟨by kernel_rfl, ⟨_, rfl, by kernel_rfl, by kernel_rfl, by kernel_rfl⟩, by kernel_rfl, rfl, rfl⟩
theorem tint3 : Try.prog.underlying 3 = some (.int .i64) := by kernel_rfl
theorem tbool4 : Try.prog.underlying 4 = some .bool := by kernel_rfl
end Go.Proofs.Ytgeceohdppecgaa
