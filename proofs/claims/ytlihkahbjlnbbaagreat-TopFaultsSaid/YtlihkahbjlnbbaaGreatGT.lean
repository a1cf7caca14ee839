
/- Facts on the types of the translation, printed by program. No condition. -/
import Derived.Test.YtlihkahbjlnbbaaGreatH
import Derived.Test.YtlihkahbjlnbbaaGreatW
import Derived.Test.YtlihkahbjlnbbaaGreatMb
import Derived.Test.YtlihkahbjlnbbaaGreatProg
import Derived.Test.YtlihkahbjlnbbaaGreatQc
set_option linter.unusedVariables false
set_option linter.unusedSimpArgs false
set_option maxRecDepth 4000
namespace Go.Proofs.YtlihkahbjlnbbaaGreat
open Go Go.V Go.Proofs Go.IntKind
theorem hmx:Tryz.prog.follows .mixedOrders=true:=by kernel_rfl
theorem Ma0:Tryz.prog.underlying 115=some (.slice 5):=by kernel_rfl
theorem MbD:Tryz.prog.underlying 5=some (.int .u8):=by kernel_rfl
theorem WR:Tryz.prog.underlying 9=some .string:=by kernel_rfl
theorem M6o (n:Int)(w:World):(convert 3 5 (.int .i64 n)).run Tryz.prog w=.ok (.int .u8 (IntKind.u8.wrap n)) w:=by kernel_rfl
theorem M5:MT Tryz.prog 3:=fun w=>⟨by kernel_rfl,by kernel_rfl⟩
theorem M0Q:Mg Tryz.prog 55 1 1:=fun ad w=>by kernel_rfl
theorem Mp:MT Tryz.prog 22:=fun w=>⟨by kernel_rfl,by kernel_rfl⟩
theorem MB:MJ Tryz.prog 22 3 1:=⟨by kernel_rfl,fun w=>by kernel_rfl⟩
theorem M0R:Mg Tryz.prog 55 0 0:=fun ad w=>by kernel_rfl
theorem Pb:TC Tryz.prog 65 8:=fun w=>⟨by kernel_rfl,by kernel_rfl⟩
theorem TE:Mg Tryz.prog 65 7 7:=fun ad w=>by kernel_rfl
theorem Wf:Mg Tryz.prog 65 5 5:=fun ad w=>by kernel_rfl
theorem TF:Mg Tryz.prog 65 4 4:=fun ad w=>by kernel_rfl
theorem M6p:MJ Tryz.prog 153 152 2:=⟨by kernel_rfl,fun w=>by kernel_rfl⟩
theorem M4r:TC Tryz.prog 152 2:=fun w=>⟨by kernel_rfl,by kernel_rfl⟩
theorem M8J:Pa Tryz.prog 25 65 8 72 (.agg #[.int .i64 0,Vs ([]:List UInt8),.int .i64 0,.int .i64 0,.int .i64 0,.int .i64 0,.int .i64 0,.int .i64 0]):=⟨by kernel_rfl,⟨_,rfl,by kernel_rfl,by kernel_rfl,by kernel_rfl⟩,by kernel_rfl,rfl,rfl⟩
theorem My:MJ Tryz.prog 25 65 8:=⟨by kernel_rfl,fun w=>by kernel_rfl⟩
theorem ZL:Tryz.prog.underlying 152=some (.array 2 3):=by kernel_rfl
theorem Mb6:Pa Tryz.prog 153 152 2 16 (.agg #[.int .i64 0,.int .i64 0]):=⟨by kernel_rfl,⟨_,rfl,by kernel_rfl,by kernel_rfl,by kernel_rfl⟩,by kernel_rfl,rfl,rfl⟩
theorem MC:Mg Tryz.prog 65 0 0:=fun ad w=>by kernel_rfl
theorem Zg:MT Tryz.prog 9:=fun w=>⟨by kernel_rfl,by kernel_rfl⟩
theorem Vf:Mg Tryz.prog 65 6 6:=fun ad w=>by kernel_rfl
theorem R9:Mg Tryz.prog 65 3 3:=fun ad w=>by kernel_rfl
theorem PO:Mg Tryz.prog 65 2 2:=fun ad w=>by kernel_rfl
theorem WS:Mg Tryz.prog 65 1 1:=fun ad w=>by kernel_rfl
theorem Zh:Tryz.prog.underlying 4=some .bool:=by kernel_rfl
theorem Wg:Pa Tryz.prog 22 3 1 8 (.int .i64 0):=⟨by kernel_rfl,⟨_,rfl,by kernel_rfl,by kernel_rfl,by kernel_rfl⟩,by kernel_rfl,rfl,rfl⟩
theorem M7h:Pa Tryz.prog 68 75 5 40 (.agg #[.int .i64 0,.int .i64 0,.int .i64 0,.int .i64 0,.int .i64 0]):=⟨by kernel_rfl,⟨_,rfl,by kernel_rfl,by kernel_rfl,by kernel_rfl⟩,by kernel_rfl,rfl,rfl⟩
theorem MF:MJ Tryz.prog 68 75 5:=⟨by kernel_rfl,fun w=>by kernel_rfl⟩
theorem R3:TC Tryz.prog 75 5:=fun w=>⟨by kernel_rfl,by kernel_rfl⟩
theorem RY:Mg Tryz.prog 75 4 4:=fun ad w=>by kernel_rfl
theorem M2W:Mg Tryz.prog 75 3 3:=fun ad w=>by kernel_rfl
theorem Zi:Mg Tryz.prog 75 2 2:=fun ad w=>by kernel_rfl
theorem Pj:Mg Tryz.prog 75 1 1:=fun ad w=>by kernel_rfl
theorem Pm:Mg Tryz.prog 75 0 0:=fun ad w=>by kernel_rfl
theorem MO:Mg Tryz.prog 67 1 1:=fun ad w=>by kernel_rfl
theorem P7:Mg Tryz.prog 67 0 0:=fun ad w=>by kernel_rfl
theorem RK:TC Tryz.prog 67 2:=fun w=>⟨by kernel_rfl,by kernel_rfl⟩
theorem Wt:MT Tryz.prog 63:=fun w=>⟨by kernel_rfl,by kernel_rfl⟩
theorem M07:MJ Tryz.prog 63 67 2:=⟨by kernel_rfl,fun w=>by kernel_rfl⟩
theorem Vg:Mg Tryz.prog 73 1 2:=fun ad w=>by kernel_rfl
theorem Y3:Mg Tryz.prog 73 3 4:=fun ad w=>by kernel_rfl
theorem M2X:Mg Tryz.prog 73 2 3:=fun ad w=>by kernel_rfl
theorem WT:Mg Tryz.prog 73 0 0:=fun ad w=>by kernel_rfl
theorem R4:TC Tryz.prog 82 6:=fun w=>⟨by kernel_rfl,by kernel_rfl⟩
theorem Wm:MT Tryz.prog 4:=fun w=>⟨by kernel_rfl,by kernel_rfl⟩
theorem WU:Mg Tryz.prog 82 0 0:=fun ad w=>by kernel_rfl
theorem Y4:Mg Tryz.prog 82 2 4:=fun ad w=>by kernel_rfl
theorem WV:Mg Tryz.prog 82 1 2:=fun ad w=>by kernel_rfl
theorem M6q:TC Tryz.prog 73 5:=fun w=>⟨by kernel_rfl,by kernel_rfl⟩
theorem M8K:Pa Tryz.prog 76 82 6 40 (.agg #[.int .i64 0,.int .i64 0,.int .i64 0,.int .i64 0,.bool false,.bool false]):=⟨by kernel_rfl,⟨_,rfl,by kernel_rfl,by kernel_rfl,by kernel_rfl⟩,by kernel_rfl,rfl,rfl⟩
theorem Zj:Mg Tryz.prog 82 3 5:=fun ad w=>by kernel_rfl
theorem M08:MJ Tryz.prog 76 82 6:=⟨by kernel_rfl,fun w=>by kernel_rfl⟩
theorem MP:TC Tryz.prog 49 4:=fun w=>⟨by kernel_rfl,by kernel_rfl⟩
theorem M7i:Pa Tryz.prog 43 49 4 32 (.agg #[.int .i64 0,.int .i64 0,.int .i64 0,.int .i64 0]):=⟨by kernel_rfl,⟨_,rfl,by kernel_rfl,by kernel_rfl,by kernel_rfl⟩,by kernel_rfl,rfl,rfl⟩
theorem Pn:Mg Tryz.prog 49 3 3:=fun ad w=>by kernel_rfl
theorem PL:MJ Tryz.prog 43 49 4:=⟨by kernel_rfl,fun w=>by kernel_rfl⟩
theorem Po:Mg Tryz.prog 49 0 0:=fun ad w=>by kernel_rfl
theorem TG:Mg Tryz.prog 49 2 2:=fun ad w=>by kernel_rfl
theorem TH:Mg Tryz.prog 49 1 1:=fun ad w=>by kernel_rfl
theorem Y5:MJ Tryz.prog 32 43 1:=⟨by kernel_rfl,fun w=>by kernel_rfl⟩
theorem Pu:MT Tryz.prog 43:=fun w=>⟨by kernel_rfl,by kernel_rfl⟩
theorem Vh:MJ Tryz.prog 26 86 2:=⟨by kernel_rfl,fun w=>by kernel_rfl⟩
theorem RZ:Mg Tryz.prog 86 0 0:=fun ad w=>by kernel_rfl
theorem Y6:Mg Tryz.prog 86 1 1:=fun ad w=>by kernel_rfl
theorem PB:MJ Tryz.prog 27 58 4:=⟨by kernel_rfl,fun w=>by kernel_rfl⟩
theorem M0S:Mg Tryz.prog 58 2 2:=fun ad w=>by kernel_rfl
theorem Wh:Mg Tryz.prog 58 1 1:=fun ad w=>by kernel_rfl
theorem Vj:TC Tryz.prog 58 4:=fun w=>⟨by kernel_rfl,by kernel_rfl⟩
theorem MY:Mg Tryz.prog 58 0 0:=fun ad w=>by kernel_rfl
theorem M3W:Pa Tryz.prog 27 58 4 32 (.agg #[.int .i64 0,.int .i64 0,.int .i64 0,.int .i64 0]):=⟨by kernel_rfl,⟨_,rfl,by kernel_rfl,by kernel_rfl,by kernel_rfl⟩,by kernel_rfl,rfl,rfl⟩
theorem M0o:TC Tryz.prog 34 8:=fun w=>⟨by kernel_rfl,by kernel_rfl⟩
theorem MaQ:Pa Tryz.prog 63 67 2 16 (.agg #[.int .i64 0,.int .i64 0]):=⟨by kernel_rfl,⟨_,rfl,by kernel_rfl,by kernel_rfl,by kernel_rfl⟩,by kernel_rfl,rfl,rfl⟩
theorem TY:TC Tryz.prog 47 6:=fun w=>⟨by kernel_rfl,by kernel_rfl⟩
theorem Re:Mg Tryz.prog 47 5 5:=fun ad w=>by kernel_rfl
theorem PP:Mg Tryz.prog 47 4 4:=fun ad w=>by kernel_rfl
theorem MQ:MT Tryz.prog 28:=fun w=>⟨by kernel_rfl,by kernel_rfl⟩
theorem ZM:MT Tryz.prog 32:=fun w=>⟨by kernel_rfl,by kernel_rfl⟩
theorem M7j:Pa Tryz.prog 28 47 6 80 (.agg #[.int .i64 0,.int .i64 0,.int .i64 0,.int .i64 0,.slice none 0 0,.slice none 0 0]):=⟨by kernel_rfl,⟨_,rfl,by kernel_rfl,by kernel_rfl,by kernel_rfl⟩,by kernel_rfl,rfl,rfl⟩
theorem M8L:Pa Tryz.prog 32 43 1 24 (.slice none 0 0):=⟨by kernel_rfl,⟨_,rfl,by kernel_rfl,by kernel_rfl,by kernel_rfl⟩,by kernel_rfl,rfl,rfl⟩
theorem Y7:Mg Tryz.prog 34 1 5:=fun ad w=>by kernel_rfl
theorem MK:Mg Tryz.prog 30 4 4:=fun ad w=>by kernel_rfl
theorem Rt:Mg Tryz.prog 34 0 0:=fun ad w=>by kernel_rfl
theorem Y8:Mg Tryz.prog 47 3 3:=fun ad w=>by kernel_rfl
theorem TI:Mg Tryz.prog 47 1 1:=fun ad w=>by kernel_rfl
theorem WW:Mg Tryz.prog 47 2 2:=fun ad w=>by kernel_rfl
theorem W4:MT Tryz.prog 26:=fun w=>⟨by kernel_rfl,by kernel_rfl⟩
theorem MbE:Pa Tryz.prog 26 86 2 16 (.agg #[.int .i64 0,.int .i64 0]):=⟨by kernel_rfl,⟨_,rfl,by kernel_rfl,by kernel_rfl,by kernel_rfl⟩,by kernel_rfl,rfl,rfl⟩
theorem TJ:Mg Tryz.prog 30 2 2:=fun ad w=>by kernel_rfl
theorem TK:MJ Tryz.prog 28 47 6:=⟨by kernel_rfl,fun w=>by kernel_rfl⟩
theorem T1:Mg Tryz.prog 47 0 0:=fun ad w=>by kernel_rfl
theorem Vk:Mg Tryz.prog 30 1 1:=fun ad w=>by kernel_rfl
theorem PQ:MT Tryz.prog 27:=fun w=>⟨by kernel_rfl,by kernel_rfl⟩
theorem M8M:Mg Tryz.prog 34 3 7:=fun ad w=>by kernel_rfl
theorem M8N:Mg Tryz.prog 34 2 6:=fun ad w=>by kernel_rfl
theorem Pq:Mg Tryz.prog 30 3 3:=fun ad w=>by kernel_rfl
theorem WX:TC Tryz.prog 30 5:=fun w=>⟨by kernel_rfl,by kernel_rfl⟩
theorem TR:MT Tryz.prog 25:=fun w=>⟨by kernel_rfl,by kernel_rfl⟩
theorem Ru:Mg Tryz.prog 30 0 0:=fun ad w=>by kernel_rfl
theorem M2Y:Tryz.prog.underlying 3=some (.int .i64):=by kernel_rfl
theorem M4s:Tryz.prog.underlying 195=some (.map 9 4):=by kernel_rfl
theorem M4t:Tryz.prog.underlying 196=some (.map 199 4):=by kernel_rfl
theorem MaR:WP Tryz.prog 9 Vs:=M9Z (by kernel_rfl)
theorem M4u:TC Tryz.prog 199 2:=fun w=>⟨by kernel_rfl,by kernel_rfl⟩
theorem M7k:WP Tryz.prog 199 (kv2 .i64 .i64):=M8G Tryz.underlying199 (by kernel_rfl) (by kernel_rfl) (by kernel_rfl) (by kernel_rfl) (by kernel_rfl) (by kernel_rfl) (by kernel_rfl)
theorem M4v:Tryz.prog.underlying 170=some (.map 3 4):=by kernel_rfl
theorem M4w:TC Tryz.prog 86 2:=fun w=>⟨by kernel_rfl,by kernel_rfl⟩
theorem M23:WP Tryz.prog 3 (Value.int .i64):=M9Y (by kernel_rfl)
theorem Zk:Mg Tryz.prog 58 3 3:=fun ad w=>by kernel_rfl
theorem M0T:MT Tryz.prog 36:=fun w=>⟨by kernel_rfl,by kernel_rfl⟩
theorem Y9:MJ Tryz.prog 36 45 2:=⟨by kernel_rfl,fun w=>by kernel_rfl⟩
theorem WY:TC Tryz.prog 45 2:=fun w=>⟨by kernel_rfl,by kernel_rfl⟩
theorem Rw:Mg Tryz.prog 45 1 1:=fun ad w=>by kernel_rfl
theorem Zl:Mg Tryz.prog 95 3 7:=fun ad w=>by kernel_rfl
theorem M2w:MT Tryz.prog 93:=fun w=>⟨by kernel_rfl,by kernel_rfl⟩
theorem M2Z:Tryz.prog.underlying 93=some (.map 3 27):=by kernel_rfl
theorem Wi:Mg Tryz.prog 95 0 0:=fun ad w=>by kernel_rfl
theorem M0U:Mg Tryz.prog 95 2 6:=fun ad w=>by kernel_rfl
theorem M0V:TC Tryz.prog 211 2:=fun w=>⟨by kernel_rfl,by kernel_rfl⟩
theorem M6r:Pa Tryz.prog 175 211 2 16 (.agg #[.int .i64 0,.int .i64 0]):=⟨by kernel_rfl,⟨_,rfl,by kernel_rfl,by kernel_rfl,by kernel_rfl⟩,by kernel_rfl,rfl,rfl⟩
theorem V8:Mg Tryz.prog 211 1 1:=fun ad w=>by kernel_rfl
theorem Ya:Mg Tryz.prog 205 2 2:=fun ad w=>by kernel_rfl
theorem Yb:Mg Tryz.prog 211 0 0:=fun ad w=>by kernel_rfl
theorem Yc:Mg Tryz.prog 205 1 1:=fun ad w=>by kernel_rfl
theorem M1E:Mg Tryz.prog 205 0 0:=fun ad w=>by kernel_rfl
theorem M7l:TC Tryz.prog 205 3:=fun w=>⟨by kernel_rfl,by kernel_rfl⟩
theorem M0p:MJ Tryz.prog 175 211 2:=⟨by kernel_rfl,fun w=>by kernel_rfl⟩
theorem M7m:MT Tryz.prog 92:=fun w=>⟨by kernel_rfl,by kernel_rfl⟩
theorem M6s:Tryz.prog.underlying 92=some (.map 3 3):=by kernel_rfl
theorem M5q:Mg Tryz.prog 95 1 5:=fun ad w=>by kernel_rfl
theorem Wu:MT Tryz.prog 37:=fun w=>⟨by kernel_rfl,by kernel_rfl⟩
theorem M7n:Pa Tryz.prog 37 52 5 40 (.agg #[.int .i64 0,.int .i64 0,.int .i64 0,.int .i64 0,.int .i64 0]):=⟨by kernel_rfl,⟨_,rfl,by kernel_rfl,by kernel_rfl,by kernel_rfl⟩,by kernel_rfl,rfl,rfl⟩
theorem Vm:Mg Tryz.prog 95 4 8:=fun ad w=>by kernel_rfl
theorem M0W:Mg Tryz.prog 45 0 0:=fun ad w=>by kernel_rfl
theorem MbF:Pa Tryz.prog 36 45 2 32 (.agg #[.int .i64 0,.slice none 0 0]):=⟨by kernel_rfl,⟨_,rfl,by kernel_rfl,by kernel_rfl,by kernel_rfl⟩,by kernel_rfl,rfl,rfl⟩
theorem MaS:MJ Tryz.prog 37 52 5:=⟨by kernel_rfl,fun w=>by kernel_rfl⟩
theorem M8O:Mg Tryz.prog 52 0 0:=fun ad w=>by kernel_rfl
end Go.Proofs.YtlihkahbjlnbbaaGreat
