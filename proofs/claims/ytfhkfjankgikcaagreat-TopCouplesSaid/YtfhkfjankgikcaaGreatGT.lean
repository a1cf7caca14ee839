
/- Facts on the types of the translation, printed by program. No condition. -/
import Derived.Test.YtfhkfjankgikcaaGreatH
import Derived.Test.YtfhkfjankgikcaaGreatW
import Derived.Test.YtfhkfjankgikcaaGreatMa
import Derived.Test.YtfhkfjankgikcaaGreatProg
set_option linter.unusedVariables false
set_option linter.unusedSimpArgs false
set_option maxRecDepth 4000
namespace Go.Proofs.YtfhkfjankgikcaaGreat
open Go Go.V Go.Proofs Go.IntKind
theorem hmx : Tryz.prog.follows .mixedOrders = true := by kernel_rfl
theorem tcell3 : IsCell Tryz.prog 3 := fun w => ⟨by kernel_rfl, by kernel_rfl⟩
theorem tfld61_1 : IsField Tryz.prog 61 1 1 := fun ad w => by kernel_rfl
theorem tcell22 : IsCell Tryz.prog 22 := fun w => ⟨by kernel_rfl, by kernel_rfl⟩
theorem tsl22 : IsSlice Tryz.prog 22 3 1 := ⟨by kernel_rfl, fun w => by kernel_rfl⟩
theorem tfld61_0 : IsField Tryz.prog 61 0 0 := fun ad w => by kernel_rfl
theorem tmap128 : Tryz.prog.underlying 128 = some (.map 3 4) := by kernel_rfl
theorem tkey3 : KeyOK Tryz.prog 3 (Value.int .i64) := key_int (by kernel_rfl)
theorem tfld26_2 : IsField Tryz.prog 26 2 2 := fun ad w => by kernel_rfl
theorem tfld26_1 : IsField Tryz.prog 26 1 1 := fun ad w => by kernel_rfl
theorem tfld26_0 : IsField Tryz.prog 26 0 0 := fun ad w => by kernel_rfl
theorem tsl87 : IsSlice Tryz.prog 87 22 1 := ⟨by kernel_rfl, fun w => by kernel_rfl⟩
theorem tel22 : IsElem Tryz.prog 22 3 1 8 (.int .i64 0) := ⟨by kernel_rfl, ⟨_, rfl, by kernel_rfl, by kernel_rfl, by kernel_rfl⟩, by kernel_rfl, rfl, rfl⟩
theorem tint3 : Tryz.prog.underlying 3 = some (.int .i64) := by kernel_rfl
theorem tagg26 : IsAgg Tryz.prog 26 3 := fun w => ⟨by kernel_rfl, by kernel_rfl⟩
theorem tagg35 : IsAgg Tryz.prog 35 5 := fun w => ⟨by kernel_rfl, by kernel_rfl⟩
theorem tel32 : IsElem Tryz.prog 32 35 5 40 (.agg #[.int .i64 0, .int .i64 0, .int .i64 0, .int .i64 0, .int .i64 0]) := ⟨by kernel_rfl, ⟨_, rfl, by kernel_rfl, by kernel_rfl, by kernel_rfl⟩, by kernel_rfl, rfl, rfl⟩
theorem tfld35_4 : IsField Tryz.prog 35 4 4 := fun ad w => by kernel_rfl
theorem tsl32 : IsSlice Tryz.prog 32 35 5 := ⟨by kernel_rfl, fun w => by kernel_rfl⟩
theorem tagg40 : IsAgg Tryz.prog 40 5 := fun w => ⟨by kernel_rfl, by kernel_rfl⟩
theorem tcell38 : IsCell Tryz.prog 38 := fun w => ⟨by kernel_rfl, by kernel_rfl⟩
theorem tel38 : IsElem Tryz.prog 38 37 2 16 (.agg #[.int .i64 0, .int .i64 0]) := ⟨by kernel_rfl, ⟨_, rfl, by kernel_rfl, by kernel_rfl, by kernel_rfl⟩, by kernel_rfl, rfl, rfl⟩
theorem tfld40_1 : IsField Tryz.prog 40 1 2 := fun ad w => by kernel_rfl
theorem tfld35_3 : IsField Tryz.prog 35 3 3 := fun ad w => by kernel_rfl
theorem tfld40_3 : IsField Tryz.prog 40 3 4 := fun ad w => by kernel_rfl
theorem tfld35_2 : IsField Tryz.prog 35 2 2 := fun ad w => by kernel_rfl
theorem tfld35_1 : IsField Tryz.prog 35 1 1 := fun ad w => by kernel_rfl
theorem tfld35_0 : IsField Tryz.prog 35 0 0 := fun ad w => by kernel_rfl
theorem tuns32 : Tryz.prog.underlying 32 = some (.slice 35) := by kernel_rfl
theorem tfld42_1 : IsField Tryz.prog 42 1 1 := fun ad w => by kernel_rfl
theorem tfld42_0 : IsField Tryz.prog 42 0 0 := fun ad w => by kernel_rfl
theorem tfld37_1 : IsField Tryz.prog 37 1 1 := fun ad w => by kernel_rfl
theorem tfld37_0 : IsField Tryz.prog 37 0 0 := fun ad w => by kernel_rfl
theorem tagg37 : IsAgg Tryz.prog 37 2 := fun w => ⟨by kernel_rfl, by kernel_rfl⟩
theorem tsl38 : IsSlice Tryz.prog 38 37 2 := ⟨by kernel_rfl, fun w => by kernel_rfl⟩
theorem tfld40_2 : IsField Tryz.prog 40 2 3 := fun ad w => by kernel_rfl
theorem tfld40_0 : IsField Tryz.prog 40 0 0 := fun ad w => by kernel_rfl
theorem tbool4 : Tryz.prog.underlying 4 = some .bool := by kernel_rfl
theorem tcell4 : IsCell Tryz.prog 4 := fun w => ⟨by kernel_rfl, by kernel_rfl⟩
theorem tfld150_1 : IsField Tryz.prog 150 1 2 := fun ad w => by kernel_rfl
theorem tfld150_0 : IsField Tryz.prog 150 0 0 := fun ad w => by kernel_rfl
theorem tfld150_2 : IsField Tryz.prog 150 2 4 := fun ad w => by kernel_rfl
theorem tel119 : IsElem Tryz.prog 119 123 6 40 (.agg #[.int .i64 0, .int .i64 0, .int .i64 0, .int .i64 0, .bool false, .bool false]) := ⟨by kernel_rfl, ⟨_, rfl, by kernel_rfl, by kernel_rfl, by kernel_rfl⟩, by kernel_rfl, rfl, rfl⟩
theorem tsl119 : IsSlice Tryz.prog 119 123 6 := ⟨by kernel_rfl, fun w => by kernel_rfl⟩
theorem tagg123 : IsAgg Tryz.prog 123 6 := fun w => ⟨by kernel_rfl, by kernel_rfl⟩
theorem tfld123_1 : IsField Tryz.prog 123 1 2 := fun ad w => by kernel_rfl
theorem tfld123_3 : IsField Tryz.prog 123 3 5 := fun ad w => by kernel_rfl
theorem tfld123_2 : IsField Tryz.prog 123 2 4 := fun ad w => by kernel_rfl
theorem tagg42 : IsAgg Tryz.prog 42 2 := fun w => ⟨by kernel_rfl, by kernel_rfl⟩
theorem tcell133 : IsCell Tryz.prog 133 := fun w => ⟨by kernel_rfl, by kernel_rfl⟩
theorem tcell32 : IsCell Tryz.prog 32 := fun w => ⟨by kernel_rfl, by kernel_rfl⟩
theorem tagg55 : IsAgg Tryz.prog 55 3 := fun w => ⟨by kernel_rfl, by kernel_rfl⟩
theorem tfld55_1 : IsField Tryz.prog 55 1 1 := fun ad w => by kernel_rfl
theorem tfld55_2 : IsField Tryz.prog 55 2 2 := fun ad w => by kernel_rfl
theorem tagg58 : IsAgg Tryz.prog 58 2 := fun w => ⟨by kernel_rfl, by kernel_rfl⟩
theorem tel51 : IsElem Tryz.prog 51 58 2 16 (.agg #[.int .i64 0, .int .i64 0]) := ⟨by kernel_rfl, ⟨_, rfl, by kernel_rfl, by kernel_rfl, by kernel_rfl⟩, by kernel_rfl, rfl, rfl⟩
theorem tfld58_1 : IsField Tryz.prog 58 1 1 := fun ad w => by kernel_rfl
theorem tfld58_0 : IsField Tryz.prog 58 0 0 := fun ad w => by kernel_rfl
theorem tfld55_0 : IsField Tryz.prog 55 0 0 := fun ad w => by kernel_rfl
theorem tsl51 : IsSlice Tryz.prog 51 58 2 := ⟨by kernel_rfl, fun w => by kernel_rfl⟩
end Go.Proofs.YtfhkfjankgikcaaGreat
