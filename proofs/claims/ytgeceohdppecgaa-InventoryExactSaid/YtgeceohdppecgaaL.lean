
/- Where functions of Go's library lie in the program, printed by program. No condition. -/
import Derived.Shelf.Lays2
import Derived.Test.YtgeceohdppecgaaProg
namespace Go.Proofs.Ytgeceohdppecgaa
open Go Go.Proofs Go.Shelf
def Ldelete_ren : Go.Shelf.Ren := ⟨fun | 23 => 33 | n => n, fun | 22 => 22 | 3 => 3 | 4 => 4 | 0 => 0 | n => n, fun | n => n⟩
theorem Ldelete : Lays2.n23 Try.prog Ldelete_ren where
  mixed := by kernel_rfl
  f23 := Try.func33.trans (congrArg some (by kernel_rfl))
  t0 := Try.underlying0
  a0 := Try.isAgg0
  z0 := Try.sizeOf0
  v0 := Try.zeroValue0
  t3 := Try.underlying3
  a3 := Try.isAgg3
  z3 := Try.sizeOf3
  v3 := Try.zeroValue3
  t4 := Try.underlying4
  a4 := Try.isAgg4
  z4 := Try.sizeOf4
  v4 := Try.zeroValue4
  t22 := Try.underlying22
  a22 := Try.isAgg22
  z22 := Try.sizeOf22
  v22 := Try.zeroValue22
  i3 := by kernel_rfl
def Linsert_ren : Go.Shelf.Ren := ⟨fun | 21 => 34 | 27 => 36 | 28 => 37 | 35 => 38 | 39 => 39 | n => n, fun | 22 => 22 | 3 => 3 | 4 => 4 | 0 => 0 | n => n, fun | n => n⟩
theorem Linsert : Lays2.n21 Try.prog Linsert_ren where
  mixed := by kernel_rfl
  f21 := Try.func34.trans (congrArg some (by kernel_rfl))
  f27 := Try.func36.trans (congrArg some (by kernel_rfl))
  f28 := Try.func37.trans (congrArg some (by kernel_rfl))
  f35 := Try.func38.trans (congrArg some (by kernel_rfl))
  f39 := Try.func39.trans (congrArg some (by kernel_rfl))
  t0 := Try.underlying0
  a0 := Try.isAgg0
  z0 := Try.sizeOf0
  v0 := Try.zeroValue0
  t3 := Try.underlying3
  a3 := Try.isAgg3
  z3 := Try.sizeOf3
  v3 := Try.zeroValue3
  t4 := Try.underlying4
  a4 := Try.isAgg4
  z4 := Try.sizeOf4
  v4 := Try.zeroValue4
  t22 := Try.underlying22
  a22 := Try.isAgg22
  z22 := Try.sizeOf22
  v22 := Try.zeroValue22
  i3 := by kernel_rfl
end Go.Proofs.Ytgeceohdppecgaa
