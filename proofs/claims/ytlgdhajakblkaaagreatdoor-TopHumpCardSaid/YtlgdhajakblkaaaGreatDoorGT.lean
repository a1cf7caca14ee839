
/- Facts on the types of the translation, printed by program. No condition. -/
import Derived.Test.YtlgdhajakblkaaaGreatDoorH
import Derived.Test.YtlgdhajakblkaaaGreatDoorW
import Derived.Test.YtlgdhajakblkaaaGreatDoorMb
import Derived.Test.YtlgdhajakblkaaaGreatDoorProg
import Derived.Test.YtlgdhajakblkaaaGreatDoorQc
import Derived.Test.YtlgdhajakblkaaaGreatDoorBl
import Derived.Test.YtlgdhajakblkaaaGreatDoorL
set_option linter.unusedVariables false
set_option linter.unusedSimpArgs false
set_option maxRecDepth 4000
namespace Go.Proofs.YtlgdhajakblkaaaGreatDoor
open Go Go.V Go.Proofs Go.IntKind
theorem hmx : Tryz.prog.follows .mixedOrders = true := by kernel_rfl
theorem tuns75 : Tryz.prog.underlying 75 = some (.slice 5) := by kernel_rfl
theorem tint5 : Tryz.prog.underlying 5 = some (.int .u8) := by kernel_rfl
theorem tstr9 : Tryz.prog.underlying 9 = some .string := by kernel_rfl
theorem tcv3_5 (n : Int) (w : World) : (convert 3 5 (.int .i64 n)).run Tryz.prog w = .ok (.int .u8 (IntKind.u8.wrap n)) w := by kernel_rfl
theorem tcell3 : IsCell Tryz.prog 3 := fun w => ⟨by kernel_rfl, by kernel_rfl⟩
theorem tfld72_1 : IsField Tryz.prog 72 1 1 := fun ad w => by kernel_rfl
theorem tcell22 : IsCell Tryz.prog 22 := fun w => ⟨by kernel_rfl, by kernel_rfl⟩
theorem tsl22 : IsSlice Tryz.prog 22 3 1 := ⟨by kernel_rfl, fun w => by kernel_rfl⟩
theorem tfld72_0 : IsField Tryz.prog 72 0 0 := fun ad w => by kernel_rfl
theorem tagg79 : IsAgg Tryz.prog 79 8 := fun w => ⟨by kernel_rfl, by kernel_rfl⟩
theorem tfld79_7 : IsField Tryz.prog 79 7 7 := fun ad w => by kernel_rfl
theorem tfld79_5 : IsField Tryz.prog 79 5 5 := fun ad w => by kernel_rfl
theorem tfld79_4 : IsField Tryz.prog 79 4 4 := fun ad w => by kernel_rfl
theorem tsl89 : IsSlice Tryz.prog 89 88 2 := ⟨by kernel_rfl, fun w => by kernel_rfl⟩
theorem tagg88 : IsAgg Tryz.prog 88 2 := fun w => ⟨by kernel_rfl, by kernel_rfl⟩
theorem tel28 : IsElem Tryz.prog 28 79 8 72 (.agg #[.int .i64 0, Vs ([] : List UInt8), .int .i64 0, .int .i64 0, .int .i64 0, .int .i64 0, .int .i64 0, .int .i64 0]) := ⟨by kernel_rfl, ⟨_, rfl, by kernel_rfl, by kernel_rfl, by kernel_rfl⟩, by kernel_rfl, rfl, rfl⟩
theorem tsl28 : IsSlice Tryz.prog 28 79 8 := ⟨by kernel_rfl, fun w => by kernel_rfl⟩
theorem tarr88 : Tryz.prog.underlying 88 = some (.array 2 3) := by kernel_rfl
theorem tel89 : IsElem Tryz.prog 89 88 2 16 (.agg #[.int .i64 0, .int .i64 0]) := ⟨by kernel_rfl, ⟨_, rfl, by kernel_rfl, by kernel_rfl, by kernel_rfl⟩, by kernel_rfl, rfl, rfl⟩
theorem tcell9 : IsCell Tryz.prog 9 := fun w => ⟨by kernel_rfl, by kernel_rfl⟩
theorem tint3 : Tryz.prog.underlying 3 = some (.int .i64) := by kernel_rfl
theorem tfld79_1 : IsField Tryz.prog 79 1 1 := fun ad w => by kernel_rfl
theorem tfld79_3 : IsField Tryz.prog 79 3 3 := fun ad w => by kernel_rfl
theorem tfld79_6 : IsField Tryz.prog 79 6 6 := fun ad w => by kernel_rfl
theorem tfld79_0 : IsField Tryz.prog 79 0 0 := fun ad w => by kernel_rfl
theorem tmap142 : Tryz.prog.underlying 142 = some (.map 9 4) := by kernel_rfl
theorem tmap143 : Tryz.prog.underlying 143 = some (.map 146 4) := by kernel_rfl
theorem tel22 : IsElem Tryz.prog 22 3 1 8 (.int .i64 0) := ⟨by kernel_rfl, ⟨_, rfl, by kernel_rfl, by kernel_rfl, by kernel_rfl⟩, by kernel_rfl, rfl, rfl⟩
theorem tkey9 : KeyOK Tryz.prog 9 Vs := key_str (by kernel_rfl)
theorem tagg146 : IsAgg Tryz.prog 146 2 := fun w => ⟨by kernel_rfl, by kernel_rfl⟩
theorem tkey146 : KeyOK Tryz.prog 146 (kv2 .i64 .i64) := key_pair Tryz.underlying146 (by kernel_rfl) (by kernel_rfl) (by kernel_rfl) (by kernel_rfl) (by kernel_rfl) (by kernel_rfl) (by kernel_rfl)
theorem tfld79_2 : IsField Tryz.prog 79 2 2 := fun ad w => by kernel_rfl
theorem tbool4 : Tryz.prog.underlying 4 = some .bool := by kernel_rfl
theorem tsl92 : IsSlice Tryz.prog 92 9 1 := ⟨by kernel_rfl, fun w => by kernel_rfl⟩
theorem tel92 : IsElem Tryz.prog 92 9 1 16 (Vs ([] : List UInt8)) := ⟨by kernel_rfl, ⟨_, rfl, by kernel_rfl, by kernel_rfl, by kernel_rfl⟩, by kernel_rfl, rfl, rfl⟩
theorem tmap91 : Tryz.prog.underlying 91 = some (.map 9 3) := by kernel_rfl
theorem tarr150 : Tryz.prog.underlying 150 = some (.array 4 3) := by kernel_rfl
theorem tel154 : IsElem Tryz.prog 154 4 1 1 (.bool false) := ⟨by kernel_rfl, ⟨_, rfl, by kernel_rfl, by kernel_rfl, by kernel_rfl⟩, by kernel_rfl, rfl, rfl⟩
theorem tsl154 : IsSlice Tryz.prog 154 4 1 := ⟨by kernel_rfl, fun w => by kernel_rfl⟩
theorem tcell4 : IsCell Tryz.prog 4 := fun w => ⟨by kernel_rfl, by kernel_rfl⟩
theorem tel35 : IsElem Tryz.prog 35 102 5 40 (.agg #[.int .i64 0, .int .i64 0, .int .i64 0, .int .i64 0, .int .i64 0]) := ⟨by kernel_rfl, ⟨_, rfl, by kernel_rfl, by kernel_rfl, by kernel_rfl⟩, by kernel_rfl, rfl, rfl⟩
theorem tel42 : IsElem Tryz.prog 42 108 3 24 (.agg #[.int .i64 0, .int .i64 0, .int .i64 0]) := ⟨by kernel_rfl, ⟨_, rfl, by kernel_rfl, by kernel_rfl, by kernel_rfl⟩, by kernel_rfl, rfl, rfl⟩
theorem tagg47 : IsAgg Tryz.prog 47 4 := fun w => ⟨by kernel_rfl, by kernel_rfl⟩
theorem tsl42 : IsSlice Tryz.prog 42 108 3 := ⟨by kernel_rfl, fun w => by kernel_rfl⟩
theorem tagg108 : IsAgg Tryz.prog 108 3 := fun w => ⟨by kernel_rfl, by kernel_rfl⟩
theorem tfld108_2 : IsField Tryz.prog 108 2 2 := fun ad w => by kernel_rfl
theorem tfld108_1 : IsField Tryz.prog 108 1 1 := fun ad w => by kernel_rfl
theorem tfld108_0 : IsField Tryz.prog 108 0 0 := fun ad w => by kernel_rfl
theorem tcell42 : IsCell Tryz.prog 42 := fun w => ⟨by kernel_rfl, by kernel_rfl⟩
theorem tcv183_3 (n : Int) (w : World) : (convert 183 3 (.int .u64 n)).run Tryz.prog w = .ok (.int .i64 (IntKind.i64.wrap n)) w := by kernel_rfl
theorem tcv3_183 (n : Int) (w : World) : (convert 3 183 (.int .i64 n)).run Tryz.prog w = .ok (.int .u64 (IntKind.u64.wrap n)) w := by kernel_rfl
theorem tfld39_1 : IsField Tryz.prog 39 1 1 := fun ad w => by kernel_rfl
theorem tfld39_0 : IsField Tryz.prog 39 0 0 := fun ad w => by kernel_rfl
theorem tagg39 : IsAgg Tryz.prog 39 2 := fun w => ⟨by kernel_rfl, by kernel_rfl⟩
theorem tfld47_1 : IsField Tryz.prog 47 1 2 := fun ad w => by kernel_rfl
theorem tfld47_0 : IsField Tryz.prog 47 0 0 := fun ad w => by kernel_rfl
theorem tsl35 : IsSlice Tryz.prog 35 102 5 := ⟨by kernel_rfl, fun w => by kernel_rfl⟩
theorem tagg102 : IsAgg Tryz.prog 102 5 := fun w => ⟨by kernel_rfl, by kernel_rfl⟩
theorem tel49 : IsElem Tryz.prog 49 39 2 16 (.agg #[.int .i64 0, .int .i64 0]) := ⟨by kernel_rfl, ⟨_, rfl, by kernel_rfl, by kernel_rfl, by kernel_rfl⟩, by kernel_rfl, rfl, rfl⟩
theorem tfld102_3 : IsField Tryz.prog 102 3 3 := fun ad w => by kernel_rfl
theorem tfld102_4 : IsField Tryz.prog 102 4 4 := fun ad w => by kernel_rfl
theorem tagg53 : IsAgg Tryz.prog 53 5 := fun w => ⟨by kernel_rfl, by kernel_rfl⟩
theorem tcell49 : IsCell Tryz.prog 49 := fun w => ⟨by kernel_rfl, by kernel_rfl⟩
theorem tfld53_1 : IsField Tryz.prog 53 1 2 := fun ad w => by kernel_rfl
theorem tfld53_3 : IsField Tryz.prog 53 3 4 := fun ad w => by kernel_rfl
theorem tfld102_2 : IsField Tryz.prog 102 2 2 := fun ad w => by kernel_rfl
theorem tfld102_1 : IsField Tryz.prog 102 1 1 := fun ad w => by kernel_rfl
theorem tfld102_0 : IsField Tryz.prog 102 0 0 := fun ad w => by kernel_rfl
theorem tsl49 : IsSlice Tryz.prog 49 39 2 := ⟨by kernel_rfl, fun w => by kernel_rfl⟩
theorem tfld53_2 : IsField Tryz.prog 53 2 3 := fun ad w => by kernel_rfl
theorem tfld53_0 : IsField Tryz.prog 53 0 0 := fun ad w => by kernel_rfl
theorem tfld114_1 : IsField Tryz.prog 114 1 2 := fun ad w => by kernel_rfl
theorem tfld114_0 : IsField Tryz.prog 114 0 0 := fun ad w => by kernel_rfl
theorem tfld114_2 : IsField Tryz.prog 114 2 4 := fun ad w => by kernel_rfl
theorem tel55 : IsElem Tryz.prog 55 68 6 40 (.agg #[.int .i64 0, .int .i64 0, .int .i64 0, .int .i64 0, .bool false, .bool false]) := ⟨by kernel_rfl, ⟨_, rfl, by kernel_rfl, by kernel_rfl, by kernel_rfl⟩, by kernel_rfl, rfl, rfl⟩
theorem tsl55 : IsSlice Tryz.prog 55 68 6 := ⟨by kernel_rfl, fun w => by kernel_rfl⟩
theorem tagg62 : IsAgg Tryz.prog 62 3 := fun w => ⟨by kernel_rfl, by kernel_rfl⟩
theorem tfld62_1 : IsField Tryz.prog 62 1 1 := fun ad w => by kernel_rfl
theorem tfld62_2 : IsField Tryz.prog 62 2 2 := fun ad w => by kernel_rfl
theorem tagg66 : IsAgg Tryz.prog 66 2 := fun w => ⟨by kernel_rfl, by kernel_rfl⟩
theorem tel58 : IsElem Tryz.prog 58 66 2 16 (.agg #[.int .i64 0, .int .i64 0]) := ⟨by kernel_rfl, ⟨_, rfl, by kernel_rfl, by kernel_rfl, by kernel_rfl⟩, by kernel_rfl, rfl, rfl⟩
theorem tfld66_1 : IsField Tryz.prog 66 1 1 := fun ad w => by kernel_rfl
theorem tfld66_0 : IsField Tryz.prog 66 0 0 := fun ad w => by kernel_rfl
theorem tfld62_0 : IsField Tryz.prog 62 0 0 := fun ad w => by kernel_rfl
theorem tfld68_1 : IsField Tryz.prog 68 1 2 := fun ad w => by kernel_rfl
theorem tfld68_0 : IsField Tryz.prog 68 0 0 := fun ad w => by kernel_rfl
theorem tfld68_3 : IsField Tryz.prog 68 3 5 := fun ad w => by kernel_rfl
theorem tsl58 : IsSlice Tryz.prog 58 66 2 := ⟨by kernel_rfl, fun w => by kernel_rfl⟩
theorem tagg68 : IsAgg Tryz.prog 68 6 := fun w => ⟨by kernel_rfl, by kernel_rfl⟩
end Go.Proofs.YtlgdhajakblkaaaGreatDoor
