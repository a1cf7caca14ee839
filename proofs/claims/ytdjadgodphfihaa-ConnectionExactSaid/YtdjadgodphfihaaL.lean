/- Where functions of Go's library lie in the program, printed by program. No condition. -/
import Derived.Shelf.Lays
import Derived.Shelf.Lays2
import Derived.Test.YtdjadgodphfihaaProg
namespace Go.Proofs.Ytdjadgodphfihaa
open Go Go.Proofs Go.Shelf
def Lsort_ren : Go.Shelf.Ren := ⟨fun | 189 => 26 | 125 => 30 | 257 => 29 | 128 => 40 | 129 => 41 | 294 => 31 | 295 => 32 | 296 => 33 | 297 => 34 | 298 => 35 | 299 => 36 | 216 => 37 | 300 => 38 | 301 => 39 | 328 => 42 | 329 => 43 | 330 => 44 | 331 => 45 | 332 => 46 | 215 => 47 | 343 => 48 | n => n, fun | 28 => 22 | 3 => 3 | 46 => 54 | 0 => 0 | 51 => 64 | 53 => 66 | 4 => 4 | 183 => 57 | 182 => 56 | 131 => 61 | 5 => 5 | 9 => 9 | 218 => 67 | 222 => 71 | 228 => 74 | 229 => 75 | n => n, fun | n => n⟩
theorem Lsort : Lays.n189 Try.prog Lsort_ren where
  mixed := by kernel_rfl
  f125 := Try.func30.trans (congrArg some (by kernel_rfl))
  f128 := Try.func40.trans (congrArg some (by kernel_rfl))
  f129 := Try.func41.trans (congrArg some (by kernel_rfl))
  f189 := Try.func26.trans (congrArg some (by kernel_rfl))
  f215 := Try.func47.trans (congrArg some (by kernel_rfl))
  f216 := Try.func37.trans (congrArg some (by kernel_rfl))
  f257 := Try.func29.trans (congrArg some (by kernel_rfl))
  f294 := Try.func31.trans (congrArg some (by kernel_rfl))
  f295 := Try.func32.trans (congrArg some (by kernel_rfl))
  f296 := Try.func33.trans (congrArg some (by kernel_rfl))
  f297 := Try.func34.trans (congrArg some (by kernel_rfl))
  f298 := Try.func35.trans (congrArg some (by kernel_rfl))
  f299 := Try.func36.trans (congrArg some (by kernel_rfl))
  f300 := Try.func38.trans (congrArg some (by kernel_rfl))
  f301 := Try.func39.trans (congrArg some (by kernel_rfl))
  f328 := Try.func42.trans (congrArg some (by kernel_rfl))
  f329 := Try.func43.trans (congrArg some (by kernel_rfl))
  f330 := Try.func44.trans (congrArg some (by kernel_rfl))
  f331 := Try.func45.trans (congrArg some (by kernel_rfl))
  f332 := Try.func46.trans (congrArg some (by kernel_rfl))
  f343 := Try.func48.trans (congrArg some (by kernel_rfl))
  t0 := Try.underlying0
  a0 := Try.isAgg0
  z0 := Try.sizeOf0
  v0 := Try.zeroValue0
  t3 := Try.underlying3
  a3 := Try.isAgg3
  z3 := Try.sizeOf3
  v3 := Try.zeroValue3
  t4 := Try.underlying4
  a4 := Try.isAgg4
  z4 := Try.sizeOf4
  v4 := Try.zeroValue4
  t5 := Try.underlying5
  a5 := Try.isAgg5
  z5 := Try.sizeOf5
  v5 := Try.zeroValue5
  t9 := Try.underlying9
  a9 := Try.isAgg9
  z9 := Try.sizeOf9
  v9 := Try.zeroValue9
  t28 := Try.underlying22
  a28 := Try.isAgg22
  z28 := Try.sizeOf22
  v28 := Try.zeroValue22
  t46 := Try.underlying54
  a46 := Try.isAgg54
  z46 := Try.sizeOf54
  v46 := Try.zeroValue54
  t51 := Try.underlying64
  a51 := Try.isAgg64
  z51 := Try.sizeOf64
  v51 := Try.zeroValue64
  t53 := Try.underlying66
  a53 := Try.isAgg66
  z53 := Try.sizeOf66
  v53 := Try.zeroValue66
  t131 := Try.underlying61
  a131 := Try.isAgg61
  z131 := Try.sizeOf61
  v131 := Try.zeroValue61
  t182 := Try.underlying56
  a182 := Try.isAgg56
  z182 := Try.sizeOf56
  v182 := Try.zeroValue56
  t183 := Try.underlying57
  a183 := Try.isAgg57
  z183 := Try.sizeOf57
  v183 := Try.zeroValue57
  t218 := Try.underlying67
  a218 := Try.isAgg67
  z218 := Try.sizeOf67
  v218 := Try.zeroValue67
  t222 := Try.underlying71
  a222 := Try.isAgg71
  z222 := Try.sizeOf71
  v222 := Try.zeroValue71
  t228 := Try.underlying74
  a228 := Try.isAgg74
  z228 := Try.sizeOf74
  v228 := Try.zeroValue74
  t229 := Try.underlying75
  a229 := Try.isAgg75
  z229 := Try.sizeOf75
  v229 := Try.zeroValue75
def Lcompact_ren : Go.Shelf.Ren := ⟨fun | 20 => 27 | n => n, fun | 22 => 22 | 3 => 3 | 4 => 4 | 0 => 0 | n => n, fun | n => n⟩
theorem Lcompact : Lays2.n20 Try.prog Lcompact_ren where
  mixed := by kernel_rfl
  f20 := Try.func27.trans (congrArg some (by kernel_rfl))
  t0 := Try.underlying0
  a0 := Try.isAgg0
  z0 := Try.sizeOf0
  v0 := Try.zeroValue0
  t3 := Try.underlying3
  a3 := Try.isAgg3
  z3 := Try.sizeOf3
  v3 := Try.zeroValue3
  t4 := Try.underlying4
  a4 := Try.isAgg4
  z4 := Try.sizeOf4
  v4 := Try.zeroValue4
  t22 := Try.underlying22
  a22 := Try.isAgg22
  z22 := Try.sizeOf22
  v22 := Try.zeroValue22
  i3 := by kernel_rfl
end Go.Proofs.Ytdjadgodphfihaa
