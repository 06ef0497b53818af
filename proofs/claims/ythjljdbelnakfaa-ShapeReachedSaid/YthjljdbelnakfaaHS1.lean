/- slices.Sort and slices.Compact of this program are those of which the library tells (printed by the kit's shelf). -/
import Derived.Test.YthjljdbelnakfaaChecked
import Derived.Ground.NamesProg
import Derived.Ground.Names2Prog
import Derived.Shelf.Sort.AssemblyIn
import Derived.Shelf.Slices.CompactI
import Derived.Shelf.Slices.In.SortNone
import Derived.Sort.EveryDepth
namespace Dd
open Go Go.Proofs Go.Shelf
set_option linter.unusedVariables false
def laysSort_ren : Go.Shelf.Ren := ⟨fun | 189 => 26 | 125 => 45 | 257 => 44 | 128 => 61 | 129 => 62 | 294 => 52 | 295 => 53 | 296 => 54 | 297 => 55 | 298 => 56 | 299 => 57 | 216 => 58 | 300 => 59 | 301 => 60 | 328 => 67 | 329 => 68 | 330 => 69 | 331 => 70 | 332 => 71 | 215 => 72 | 343 => 78 | n => n, fun | 28 => 28 | 3 => 3 | 46 => 53 | 0 => 0 | 51 => 52 | 53 => 77 | 4 => 4 | 183 => 68 | 182 => 67 | 131 => 73 | 5 => 5 | 9 => 9 | 218 => 89 | 222 => 93 | 228 => 97 | 229 => 98 | n => n, fun | n => n⟩
theorem laysSort : Go.Proofs.Lays.n189 Try.prog laysSort_ren where
  mixed := by kernel_rfl
  f125 := Try.func45.trans (congrArg some (by kernel_rfl))
  f128 := Try.func61.trans (congrArg some (by kernel_rfl))
  f129 := Try.func62.trans (congrArg some (by kernel_rfl))
  f189 := Try.func26.trans (congrArg some (by kernel_rfl))
  f215 := Try.func72.trans (congrArg some (by kernel_rfl))
  f216 := Try.func58.trans (congrArg some (by kernel_rfl))
  f257 := Try.func44.trans (congrArg some (by kernel_rfl))
  f294 := Try.func52.trans (congrArg some (by kernel_rfl))
  f295 := Try.func53.trans (congrArg some (by kernel_rfl))
  f296 := Try.func54.trans (congrArg some (by kernel_rfl))
  f297 := Try.func55.trans (congrArg some (by kernel_rfl))
  f298 := Try.func56.trans (congrArg some (by kernel_rfl))
  f299 := Try.func57.trans (congrArg some (by kernel_rfl))
  f300 := Try.func59.trans (congrArg some (by kernel_rfl))
  f301 := Try.func60.trans (congrArg some (by kernel_rfl))
  f328 := Try.func67.trans (congrArg some (by kernel_rfl))
  f329 := Try.func68.trans (congrArg some (by kernel_rfl))
  f330 := Try.func69.trans (congrArg some (by kernel_rfl))
  f331 := Try.func70.trans (congrArg some (by kernel_rfl))
  f332 := Try.func71.trans (congrArg some (by kernel_rfl))
  f343 := Try.func78.trans (congrArg some (by kernel_rfl))
  t0 := Try.underlying0
  a0 := Try.isAgg0
  z0 := Try.sizeOf0
  v0 := Try.zeroValue0
  t3 := Try.underlying3
  a3 := Try.isAgg3
  z3 := Try.sizeOf3
  v3 := Try.zeroValue3
  t4 := Try.underlying4
  a4 := Try.isAgg4
  z4 := Try.sizeOf4
  v4 := Try.zeroValue4
  t5 := Try.underlying5
  a5 := Try.isAgg5
  z5 := Try.sizeOf5
  v5 := Try.zeroValue5
  t9 := Try.underlying9
  a9 := Try.isAgg9
  z9 := Try.sizeOf9
  v9 := Try.zeroValue9
  t28 := Try.underlying28
  a28 := Try.isAgg28
  z28 := Try.sizeOf28
  v28 := Try.zeroValue28
  t46 := Try.underlying53
  a46 := Try.isAgg53
  z46 := Try.sizeOf53
  v46 := Try.zeroValue53
  t51 := Try.underlying52
  a51 := Try.isAgg52
  z51 := Try.sizeOf52
  v51 := Try.zeroValue52
  t53 := Try.underlying77
  a53 := Try.isAgg77
  z53 := Try.sizeOf77
  v53 := Try.zeroValue77
  t131 := Try.underlying73
  a131 := Try.isAgg73
  z131 := Try.sizeOf73
  v131 := Try.zeroValue73
  t182 := Try.underlying67
  a182 := Try.isAgg67
  z182 := Try.sizeOf67
  v182 := Try.zeroValue67
  t183 := Try.underlying68
  a183 := Try.isAgg68
  z183 := Try.sizeOf68
  v183 := Try.zeroValue68
  t218 := Try.underlying89
  a218 := Try.isAgg89
  z218 := Try.sizeOf89
  v218 := Try.zeroValue89
  t222 := Try.underlying93
  a222 := Try.isAgg93
  z222 := Try.sizeOf93
  v222 := Try.zeroValue93
  t228 := Try.underlying97
  a228 := Try.isAgg97
  z228 := Try.sizeOf97
  v228 := Try.zeroValue97
  t229 := Try.underlying98
  a229 := Try.isAgg98
  z229 := Try.sizeOf98
  v229 := Try.zeroValue98
def laysCompact_ren : Go.Shelf.Ren := ⟨fun | 20 => 27 | n => n, fun | 22 => 28 | 3 => 3 | 4 => 4 | 0 => 0 | n => n, fun | n => n⟩
theorem laysCompact : Go.Proofs.Lays2.n20 Try.prog laysCompact_ren where
  mixed := by kernel_rfl
  f20 := Try.func27.trans (congrArg some (by kernel_rfl))
  t0 := Try.underlying0
  a0 := Try.isAgg0
  z0 := Try.sizeOf0
  v0 := Try.zeroValue0
  t3 := Try.underlying3
  a3 := Try.isAgg3
  z3 := Try.sizeOf3
  v3 := Try.zeroValue3
  t4 := Try.underlying4
  a4 := Try.isAgg4
  z4 := Try.sizeOf4
  v4 := Try.zeroValue4
  t22 := Try.underlying28
  a22 := Try.isAgg28
  z22 := Try.sizeOf28
  v22 := Try.zeroValue28
  i3 := by kernel_rfl
end Dd
