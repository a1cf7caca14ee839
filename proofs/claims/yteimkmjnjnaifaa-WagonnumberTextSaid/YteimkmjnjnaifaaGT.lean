/- Facts on the types of the translation, printed by program. No condition. -/
import Derived.Test.YteimkmjnjnaifaaH
import Derived.Test.YteimkmjnjnaifaaW
import Derived.Test.YteimkmjnjnaifaaProg
import Derived.Test.YteimkmjnjnaifaaT
import Derived.Test.YteimkmjnjnaifaaL
set_option linter.unusedVariables false
set_option linter.unusedSimpArgs false
set_option maxRecDepth 4000
namespace Go.Proofs.Yteimkmjnjnaifaa
open Go Go.V Go.Proofs
theorem hmx : Try.prog.follows .mixedOrders = true := by kernel_rfl
theorem tcell3 : IsCell Try.prog 3 := fun w => ⟨by kernel_rfl, by kernel_rfl⟩
theorem tfld43_1 : IsField Try.prog 43 1 1 := fun ad w => by kernel_rfl
theorem tcell22 : IsCell Try.prog 22 := fun w => ⟨by kernel_rfl, by kernel_rfl⟩
theorem tsl22 : IsSlice Try.prog 22 3 1 := ⟨by kernel_rfl, fun w => by kernel_rfl⟩
theorem tfld43_0 : IsField Try.prog 43 0 0 := fun ad w => by kernel_rfl
theorem tel26 : IsElem Try.prog 26 5 1 1 (.int .u8 0) := ⟨by kernel_rfl, ⟨_, rfl, by kernel_rfl, by kernel_rfl, by kernel_rfl⟩, by kernel_rfl, rfl, rfl⟩
theorem tsl26 : IsSlice Try.prog 26 5 1 := ⟨by kernel_rfl, fun w => by kernel_rfl⟩
theorem tcell5 : IsCell Try.prog 5 := fun w => ⟨by kernel_rfl, by kernel_rfl⟩
theorem tcv3_5 (n : Int) (w : World) : (convert 3 5 (.int .i64 n)).run Try.prog w = .ok (.int .u8 (IntKind.u8.wrap n)) w := by kernel_rfl
theorem tuns26 : Try.prog.underlying 26 = some (.slice 5) := by kernel_rfl
theorem tint5 : Try.prog.underlying 5 = some (.int .u8) := by kernel_rfl
theorem tstr9 : Try.prog.underlying 9 = some .string := by kernel_rfl
theorem tcv5_3 (n : Int) (w : World) : (convert 5 3 (.int .u8 n)).run Try.prog w = .ok (.int .i64 (IntKind.i64.wrap n)) w := by kernel_rfl
theorem tcell29 : IsCell Try.prog 29 := fun w => ⟨by kernel_rfl, by kernel_rfl⟩
theorem tel29 : IsElem Try.prog 29 9 1 16 (Vs ([] : List UInt8)) := ⟨by kernel_rfl, ⟨_, rfl, by kernel_rfl, by kernel_rfl, by kernel_rfl⟩, by kernel_rfl, rfl, rfl⟩
theorem tsl29 : IsSlice Try.prog 29 9 1 := ⟨by kernel_rfl, fun w => by kernel_rfl⟩
theorem tcell9 : IsCell Try.prog 9 := fun w => ⟨by kernel_rfl, by kernel_rfl⟩
theorem tbool4 : Try.prog.underlying 4 = some .bool := by kernel_rfl
theorem tel22 : IsElem Try.prog 22 3 1 8 (.int .i64 0) := ⟨by kernel_rfl, ⟨_, rfl, by kernel_rfl, by kernel_rfl, by kernel_rfl⟩, by kernel_rfl, rfl, rfl⟩
end Go.Proofs.Yteimkmjnjnaifaa
