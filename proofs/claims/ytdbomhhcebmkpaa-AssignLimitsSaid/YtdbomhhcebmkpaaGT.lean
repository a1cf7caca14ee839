/- Facts on the types of the translation, printed by program. No condition. -/
import Derived.Test.YtdbomhhcebmkpaaH
import Derived.Test.YtdbomhhcebmkpaaW
import Derived.Test.YtdbomhhcebmkpaaQ
import Derived.Test.YtdbomhhcebmkpaaProg
import Derived.Test.YtdbomhhcebmkpaaS
import Derived.Test.YtdbomhhcebmkpaaL
set_option linter.unusedVariables false
set_option linter.unusedSimpArgs false
set_option maxRecDepth 4000
namespace Go.Proofs.Ytdbomhhcebmkpaa
open Go Go.V Go.Proofs
theorem hmx : Try.prog.follows .mixedOrders = true := by kernel_rfl
theorem tsl22 : IsSlice Try.prog 22 3 1 := ⟨by kernel_rfl, fun w => by kernel_rfl⟩
theorem tcell3 : IsCell Try.prog 3 := fun w => ⟨by kernel_rfl, by kernel_rfl⟩
theorem tcell22 : IsCell Try.prog 22 := fun w => ⟨by kernel_rfl, by kernel_rfl⟩
theorem tcv50_3 (n : Int) (w : World) : (convert 50 3 (.int .u64 n)).run Try.prog w = .ok (.int .i64 (IntKind.i64.wrap n)) w := by kernel_rfl
theorem tcv3_50 (n : Int) (w : World) : (convert 3 50 (.int .i64 n)).run Try.prog w = .ok (.int .u64 (IntKind.u64.wrap n)) w := by kernel_rfl
theorem tel22 : IsElem Try.prog 22 3 1 8 (.int .i64 0) := ⟨by kernel_rfl, ⟨_, rfl, by kernel_rfl, by kernel_rfl, by kernel_rfl⟩, by kernel_rfl, rfl, rfl⟩
theorem tuns22 : Try.prog.underlying 22 = some (.slice 3) := by kernel_rfl
theorem tel41 : IsElem Try.prog 41 4 1 1 (.bool false) := ⟨by kernel_rfl, ⟨_, rfl, by kernel_rfl, by kernel_rfl, by kernel_rfl⟩, by kernel_rfl, rfl, rfl⟩
theorem tsl41 : IsSlice Try.prog 41 4 1 := ⟨by kernel_rfl, fun w => by kernel_rfl⟩
theorem tcell4 : IsCell Try.prog 4 := fun w => ⟨by kernel_rfl, by kernel_rfl⟩
theorem tfld46_1 : IsField Try.prog 46 1 1 := fun ad w => by kernel_rfl
theorem tfld46_0 : IsField Try.prog 46 0 0 := fun ad w => by kernel_rfl
theorem tbool4 : Try.prog.underlying 4 = some .bool := by kernel_rfl
end Go.Proofs.Ytdbomhhcebmkpaa
