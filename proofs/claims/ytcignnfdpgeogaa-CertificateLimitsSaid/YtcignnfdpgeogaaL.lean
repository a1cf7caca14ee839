
/- Where functions of Go's library lie in the program, printed by program. No condition. -/
import Derived.Shelf.Lays
import Derived.Shelf.SlLaysF
import Derived.Test.YtcignnfdpgeogaaProg
namespace Go.Proofs.Ytcignnfdpgeogaa
open Go Go.Proofs Go.Shelf
def Lsortfunc_ren : Go.Shelf.Ren := ⟨fun | 6 => 68 | 15 => 76 | 14 => 75 | 28 => 85 | 29 => 86 | 20 => 77 | 21 => 78 | 22 => 79 | 23 => 80 | 24 => 81 | 25 => 82 | 26 => 83 | 27 => 84 | 46 => 87 | 47 => 88 | 48 => 89 | 49 => 90 | 50 => 91 | 57 => 92 | n => n, fun | 22 => 22 | 24 => 3 | 25 => 103 | 3 => 3 | 39 => 82 | 0 => 0 | 53 => 116 | 55 => 118 | 4 => 4 | 46 => 109 | 45 => 108 | 50 => 113 | 5 => 5 | 9 => 9 | 66 => 119 | 70 => 123 | 76 => 125 | 77 => 126 | n => n, fun | n => n⟩
theorem Lsortfunc : SlLaysF.n6 Try.prog Lsortfunc_ren where
  mixed := by kernel_rfl
  f6 := ⟨ "slices.SortFunc[[]int,int]", by decide, Try.func68.trans (congrArg some (by kernel_rfl))⟩
  f14 := ⟨ "slices.pdqsortCmpFunc[int]", by decide, Try.func75.trans (congrArg some (by kernel_rfl))⟩
  f15 := Try.func76.trans (congrArg some (by kernel_rfl))
  f20 := ⟨ "slices.insertionSortCmpFunc[int]", by decide, Try.func77.trans (congrArg some (by kernel_rfl))⟩
  f21 := ⟨ "slices.heapSortCmpFunc[int]", by decide, Try.func78.trans (congrArg some (by kernel_rfl))⟩
  f22 := ⟨ "slices.breakPatternsCmpFunc[int]", by decide, Try.func79.trans (congrArg some (by kernel_rfl))⟩
  f23 := ⟨ "slices.choosePivotCmpFunc[int]", by decide, Try.func80.trans (congrArg some (by kernel_rfl))⟩
  f24 := ⟨ "slices.reverseRangeCmpFunc[int]", by decide, Try.func81.trans (congrArg some (by kernel_rfl))⟩
  f25 := ⟨ "slices.partialInsertionSortCmpFunc[int]", by decide, Try.func82.trans (congrArg some (by kernel_rfl))⟩
  f26 := ⟨ "slices.partitionEqualCmpFunc[int]", by decide, Try.func83.trans (congrArg some (by kernel_rfl))⟩
  f27 := ⟨ "slices.partitionCmpFunc[int]", by decide, Try.func84.trans (congrArg some (by kernel_rfl))⟩
  f28 := Try.func85.trans (congrArg some (by kernel_rfl))
  f29 := Try.func86.trans (congrArg some (by kernel_rfl))
  f46 := ⟨ "slices.siftDownCmpFunc[int]", by decide, Try.func87.trans (congrArg some (by kernel_rfl))⟩
  f47 := Try.func88.trans (congrArg some (by kernel_rfl))
  f48 := Try.func89.trans (congrArg some (by kernel_rfl))
  f49 := ⟨ "slices.medianAdjacentCmpFunc[int]", by decide, Try.func90.trans (congrArg some (by kernel_rfl))⟩
  f50 := ⟨ "slices.medianCmpFunc[int]", by decide, Try.func91.trans (congrArg some (by kernel_rfl))⟩
  f57 := ⟨ "slices.order2CmpFunc[int]", by decide, Try.func92.trans (congrArg some (by kernel_rfl))⟩
  t0 := Try.underlying0
  a0 := Try.isAgg0
  z0 := Try.sizeOf0
  v0 := Try.zeroValue0
  t3 := Try.underlying3
  a3 := Try.isAgg3
  z3 := Try.sizeOf3
  v3 := Try.zeroValue3
  t4 := Try.underlying4
  a4 := Try.isAgg4
  z4 := Try.sizeOf4
  v4 := Try.zeroValue4
  t5 := Try.underlying5
  a5 := Try.isAgg5
  z5 := Try.sizeOf5
  v5 := Try.zeroValue5
  t9 := Try.underlying9
  a9 := Try.isAgg9
  z9 := Try.sizeOf9
  v9 := Try.zeroValue9
  t22 := Try.underlying22
  a22 := Try.isAgg22
  z22 := Try.sizeOf22
  v22 := Try.zeroValue22
  a24 := Try.isAgg3
  z24 := Try.sizeOf3
  t25 := Try.underlying103
  a25 := Try.isAgg103
  z25 := Try.sizeOf103
  v25 := Try.zeroValue103
  t39 := Try.underlying82
  a39 := Try.isAgg82
  z39 := Try.sizeOf82
  v39 := Try.zeroValue82
  t45 := Try.underlying108
  a45 := Try.isAgg108
  z45 := Try.sizeOf108
  v45 := Try.zeroValue108
  t46 := Try.underlying109
  a46 := Try.isAgg109
  z46 := Try.sizeOf109
  v46 := Try.zeroValue109
  t50 := Try.underlying113
  a50 := Try.isAgg113
  z50 := Try.sizeOf113
  v50 := Try.zeroValue113
  t53 := Try.underlying116
  a53 := Try.isAgg116
  z53 := Try.sizeOf116
  v53 := Try.zeroValue116
  t55 := Try.underlying118
  a55 := Try.isAgg118
  z55 := Try.sizeOf118
  v55 := Try.zeroValue118
  t66 := Try.underlying119
  a66 := Try.isAgg119
  z66 := Try.sizeOf119
  v66 := Try.zeroValue119
  t70 := Try.underlying123
  a70 := Try.isAgg123
  z70 := Try.sizeOf123
  v70 := Try.zeroValue123
  t76 := Try.underlying125
  a76 := Try.isAgg125
  z76 := Try.sizeOf125
  v76 := Try.zeroValue125
  t77 := Try.underlying126
  a77 := Try.isAgg126
  z77 := Try.sizeOf126
  v77 := Try.zeroValue126
def Lreverse_ren : Go.Shelf.Ren := ⟨fun | 112 => 56 | n => n, fun | 28 => 22 | 3 => 3 | 4 => 4 | 0 => 0 | n => n, fun | n => n⟩
theorem Lreverse : Lays.n112 Try.prog Lreverse_ren where
  mixed := by kernel_rfl
  f112 := Try.func56.trans (congrArg some (by kernel_rfl))
  t0 := Try.underlying0
  a0 := Try.isAgg0
  z0 := Try.sizeOf0
  v0 := Try.zeroValue0
  t3 := Try.underlying3
  a3 := Try.isAgg3
  z3 := Try.sizeOf3
  v3 := Try.zeroValue3
  t4 := Try.underlying4
  a4 := Try.isAgg4
  z4 := Try.sizeOf4
  v4 := Try.zeroValue4
  t28 := Try.underlying22
  a28 := Try.isAgg22
  z28 := Try.sizeOf22
  v28 := Try.zeroValue22
end Go.Proofs.Ytcignnfdpgeogaa
