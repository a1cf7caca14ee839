
/- Facts on the types of the translation, printed by program. No condition. -/
import Derived.Test.YtlejnkhaphlooaaGreatH
import Derived.Test.YtlejnkhaphlooaaGreatW
import Derived.Test.YtlejnkhaphlooaaGreatQ
import Derived.Test.YtlejnkhaphlooaaGreatProg
import Derived.Test.YtlejnkhaphlooaaGreatS
import Derived.Test.YtlejnkhaphlooaaGreatL
set_option linter.unusedVariables false
set_option linter.unusedSimpArgs false
set_option maxRecDepth 4000
namespace Go.Proofs.YtlejnkhaphlooaaGreat
open Go Go.V Go.Proofs Go.IntKind
theorem hmx:Tryz.prog.follows .mixedOrders=true:=by kernel_rfl
theorem tcell3:IsCell Tryz.prog 3:=fun w=>⟨by kernel_rfl,by kernel_rfl⟩
theorem tfld90_1:IsField Tryz.prog 90 1 1:=fun ad w=>by kernel_rfl
theorem tcell22:IsCell Tryz.prog 22:=fun w=>⟨by kernel_rfl,by kernel_rfl⟩
theorem tsl22:IsSlice Tryz.prog 22 3 1:=⟨by kernel_rfl,fun w=>by kernel_rfl⟩
theorem tfld90_0:IsField Tryz.prog 90 0 0:=fun ad w=>by kernel_rfl
theorem tel36:IsElem Tryz.prog 36 76 4 32 (.agg #[.int .i64 0,.int .i64 0,.int .i64 0,.int .i64 0]):=⟨by kernel_rfl,⟨_,rfl,by kernel_rfl,by kernel_rfl,by kernel_rfl⟩,by kernel_rfl,rfl,rfl⟩
theorem tel22:IsElem Tryz.prog 22 3 1 8 (.int .i64 0):=⟨by kernel_rfl,⟨_,rfl,by kernel_rfl,by kernel_rfl,by kernel_rfl⟩,by kernel_rfl,rfl,rfl⟩
theorem tcell36:IsCell Tryz.prog 36:=fun w=>⟨by kernel_rfl,by kernel_rfl⟩
theorem tsl36:IsSlice Tryz.prog 36 76 4:=⟨by kernel_rfl,fun w=>by kernel_rfl⟩
theorem tagg76:IsAgg Tryz.prog 76 4:=fun w=>⟨by kernel_rfl,by kernel_rfl⟩
theorem tfld76_2:IsField Tryz.prog 76 2 2:=fun ad w=>by kernel_rfl
theorem tfld50_0:IsField Tryz.prog 50 0 0:=fun ad w=>by kernel_rfl
theorem tfld76_3:IsField Tryz.prog 76 3 3:=fun ad w=>by kernel_rfl
theorem tfld76_1:IsField Tryz.prog 76 1 1:=fun ad w=>by kernel_rfl
theorem tfld76_0:IsField Tryz.prog 76 0 0:=fun ad w=>by kernel_rfl
theorem tfld50_1:IsField Tryz.prog 50 1 1:=fun ad w=>by kernel_rfl
theorem tel57:IsElem Tryz.prog 57 22 1 24 (.slice none 0 0):=⟨by kernel_rfl,⟨_,rfl,by kernel_rfl,by kernel_rfl,by kernel_rfl⟩,by kernel_rfl,rfl,rfl⟩
theorem tsl57:IsSlice Tryz.prog 57 22 1:=⟨by kernel_rfl,fun w=>by kernel_rfl⟩
theorem tagg50:IsAgg Tryz.prog 50 2:=fun w=>⟨by kernel_rfl,by kernel_rfl⟩
theorem tagg52:IsAgg Tryz.prog 52 2:=fun w=>⟨by kernel_rfl,by kernel_rfl⟩
theorem tfld52_0:IsField Tryz.prog 52 0 0:=fun ad w=>by kernel_rfl
theorem tfld52_1:IsField Tryz.prog 52 1 1:=fun ad w=>by kernel_rfl
theorem tcell57:IsCell Tryz.prog 57:=fun w=>⟨by kernel_rfl,by kernel_rfl⟩
theorem tfld109_3:IsField Tryz.prog 109 3 5:=fun ad w=>by kernel_rfl
theorem tfld109_2:IsField Tryz.prog 109 2 4:=fun ad w=>by kernel_rfl
theorem tfld109_1:IsField Tryz.prog 109 1 2:=fun ad w=>by kernel_rfl
theorem tfld109_0:IsField Tryz.prog 109 0 0:=fun ad w=>by kernel_rfl
theorem tfld109_4:IsField Tryz.prog 109 4 6:=fun ad w=>by kernel_rfl
theorem tfld109_5:IsField Tryz.prog 109 5 7:=fun ad w=>by kernel_rfl
theorem tagg59:IsAgg Tryz.prog 59 2:=fun w=>⟨by kernel_rfl,by kernel_rfl⟩
theorem tagg48:IsAgg Tryz.prog 48 4:=fun w=>⟨by kernel_rfl,by kernel_rfl⟩
theorem tfld59_1:IsField Tryz.prog 59 1 1:=fun ad w=>by kernel_rfl
theorem tfld48_0:IsField Tryz.prog 48 0 0:=fun ad w=>by kernel_rfl
theorem tfld48_2:IsField Tryz.prog 48 2 2:=fun ad w=>by kernel_rfl
theorem tfld48_1:IsField Tryz.prog 48 1 1:=fun ad w=>by kernel_rfl
theorem tsl44:IsSlice Tryz.prog 44 48 4:=⟨by kernel_rfl,fun w=>by kernel_rfl⟩
theorem tel44:IsElem Tryz.prog 44 48 4 32 (.agg #[.int .i64 0,.int .i64 0,.int .i64 0,.int .i64 0]):=⟨by kernel_rfl,⟨_,rfl,by kernel_rfl,by kernel_rfl,by kernel_rfl⟩,by kernel_rfl,rfl,rfl⟩
theorem tfld116_0:IsField Tryz.prog 116 0 0:=fun ad w=>by kernel_rfl
theorem tfld116_1:IsField Tryz.prog 116 1 1:=fun ad w=>by kernel_rfl
theorem tfld116_2:IsField Tryz.prog 116 2 2:=fun ad w=>by kernel_rfl
theorem tfld116_3:IsField Tryz.prog 116 3 3:=fun ad w=>by kernel_rfl
theorem tagg116:IsAgg Tryz.prog 116 4:=fun w=>⟨by kernel_rfl,by kernel_rfl⟩
theorem tint3:Tryz.prog.underlying 3=some (.int .i64):=by kernel_rfl
theorem tuns36:Tryz.prog.underlying 36=some (.slice 76):=by kernel_rfl
theorem tagg54:IsAgg Tryz.prog 54 3:=fun w=>⟨by kernel_rfl,by kernel_rfl⟩
theorem tuns22:Tryz.prog.underlying 22=some (.slice 3):=by kernel_rfl
theorem tel111:IsElem Tryz.prog 111 4 1 1 (.bool false):=⟨by kernel_rfl,⟨_,rfl,by kernel_rfl,by kernel_rfl,by kernel_rfl⟩,by kernel_rfl,rfl,rfl⟩
theorem tsl111:IsSlice Tryz.prog 111 4 1:=⟨by kernel_rfl,fun w=>by kernel_rfl⟩
theorem tcell4:IsCell Tryz.prog 4:=fun w=>⟨by kernel_rfl,by kernel_rfl⟩
theorem tagg67:IsAgg Tryz.prog 67 6:=fun w=>⟨by kernel_rfl,by kernel_rfl⟩
theorem tfld54_0:IsField Tryz.prog 54 0 0:=fun ad w=>by kernel_rfl
theorem tfld54_1:IsField Tryz.prog 54 1 2:=fun ad w=>by kernel_rfl
theorem tfld67_2:IsField Tryz.prog 67 2 5:=fun ad w=>by kernel_rfl
theorem tfld67_1:IsField Tryz.prog 67 1 2:=fun ad w=>by kernel_rfl
theorem tfld67_0:IsField Tryz.prog 67 0 0:=fun ad w=>by kernel_rfl
theorem tstr9:Tryz.prog.underlying 9=some .string:=by kernel_rfl
theorem tcv5_3 (n:Int)(w:World):(convert 5 3 (.int .u8 n)).run Tryz.prog w=.ok (.int .i64 (IntKind.i64.wrap n)) w:=by kernel_rfl
theorem tcell9:IsCell Tryz.prog 9:=fun w=>⟨by kernel_rfl,by kernel_rfl⟩
theorem tfld34_7:IsField Tryz.prog 34 7 7:=fun ad w=>by kernel_rfl
theorem tfld34_5:IsField Tryz.prog 34 5 5:=fun ad w=>by kernel_rfl
theorem tfld34_3:IsField Tryz.prog 34 3 3:=fun ad w=>by kernel_rfl
theorem tfld34_4:IsField Tryz.prog 34 4 4:=fun ad w=>by kernel_rfl
theorem tfld34_1:IsField Tryz.prog 34 1 1:=fun ad w=>by kernel_rfl
theorem tfld34_2:IsField Tryz.prog 34 2 2:=fun ad w=>by kernel_rfl
theorem tfld34_0:IsField Tryz.prog 34 0 0:=fun ad w=>by kernel_rfl
theorem tsl29:IsSlice Tryz.prog 29 9 1:=⟨by kernel_rfl,fun w=>by kernel_rfl⟩
theorem tsl23:IsSlice Tryz.prog 23 31 1:=⟨by kernel_rfl,fun w=>by kernel_rfl⟩
theorem tagg31:IsAgg Tryz.prog 31 1:=fun w=>⟨by kernel_rfl,by kernel_rfl⟩
theorem tcell29:IsCell Tryz.prog 29:=fun w=>⟨by kernel_rfl,by kernel_rfl⟩
theorem tfld31_0:IsField Tryz.prog 31 0 0:=fun ad w=>by kernel_rfl
theorem tsl24:IsSlice Tryz.prog 24 34 8:=⟨by kernel_rfl,fun w=>by kernel_rfl⟩
theorem tagg34:IsAgg Tryz.prog 34 8:=fun w=>⟨by kernel_rfl,by kernel_rfl⟩
end Go.Proofs.YtlejnkhaphlooaaGreat
