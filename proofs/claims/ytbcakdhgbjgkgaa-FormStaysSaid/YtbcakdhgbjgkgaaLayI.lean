/- The shelf's contracts laid at this seat, in plain words (written by the kit's lay-plain.mjs). -/
import Derived.Shelf.Sort.Plain
import Derived.Shelf.Slices.In.SortNone
import Derived.Ground.NamesProg
import Derived.Shelf.Slices.CompactI
import Derived.Ground.Names2Prog
import Derived.Test.YtbcakdhgbjgkgaaProg
namespace Go.Proofs
open Go.Shelf
def Try.zSortI_ren : Go.Shelf.Ren := ⟨fun | 189 => 16 | 125 => 28 | 257 => 27 | 128 => 46 | 129 => 47 | 294 => 37 | 295 => 38 | 296 => 39 | 297 => 40 | 298 => 41 | 299 => 42 | 216 => 43 | 300 => 44 | 301 => 45 | 328 => 52 | 329 => 53 | 330 => 54 | 331 => 55 | 332 => 56 | 215 => 57 | 343 => 58 | n => n, fun | 28 => 30 | 3 => 3 | 46 => 52 | 0 => 0 | 51 => 68 | 53 => 70 | 4 => 4 | 183 => 60 | 182 => 59 | 131 => 65 | 5 => 5 | 9 => 9 | 218 => 73 | 222 => 77 | 228 => 79 | 229 => 80 | n => n, fun | n => n⟩
theorem Try.zSortI : Go.Proofs.Lays.n189 Try.prog Try.zSortI_ren := {
  mixed := by kernel_rfl
  f125 := Try.func28.trans (congrArg some (by kernel_rfl))
  f128 := Try.func46.trans (congrArg some (by kernel_rfl))
  f129 := Try.func47.trans (congrArg some (by kernel_rfl))
  f189 := Try.func16.trans (congrArg some (by kernel_rfl))
  f215 := Try.func57.trans (congrArg some (by kernel_rfl))
  f216 := Try.func43.trans (congrArg some (by kernel_rfl))
  f257 := Try.func27.trans (congrArg some (by kernel_rfl))
  f294 := Try.func37.trans (congrArg some (by kernel_rfl))
  f295 := Try.func38.trans (congrArg some (by kernel_rfl))
  f296 := Try.func39.trans (congrArg some (by kernel_rfl))
  f297 := Try.func40.trans (congrArg some (by kernel_rfl))
  f298 := Try.func41.trans (congrArg some (by kernel_rfl))
  f299 := Try.func42.trans (congrArg some (by kernel_rfl))
  f300 := Try.func44.trans (congrArg some (by kernel_rfl))
  f301 := Try.func45.trans (congrArg some (by kernel_rfl))
  f328 := Try.func52.trans (congrArg some (by kernel_rfl))
  f329 := Try.func53.trans (congrArg some (by kernel_rfl))
  f330 := Try.func54.trans (congrArg some (by kernel_rfl))
  f331 := Try.func55.trans (congrArg some (by kernel_rfl))
  f332 := Try.func56.trans (congrArg some (by kernel_rfl))
  f343 := Try.func58.trans (congrArg some (by kernel_rfl))
  t0 := Try.underlying0
  a0 := Try.isAgg0
  z0 := Try.sizeOf0
  v0 := Try.zeroValue0
  t3 := Try.underlying3
  a3 := Try.isAgg3
  z3 := Try.sizeOf3
  v3 := Try.zeroValue3
  t4 := Try.underlying4
  a4 := Try.isAgg4
  z4 := Try.sizeOf4
  v4 := Try.zeroValue4
  t5 := Try.underlying5
  a5 := Try.isAgg5
  z5 := Try.sizeOf5
  v5 := Try.zeroValue5
  t9 := Try.underlying9
  a9 := Try.isAgg9
  z9 := Try.sizeOf9
  v9 := Try.zeroValue9
  t28 := Try.underlying30
  a28 := Try.isAgg30
  z28 := Try.sizeOf30
  v28 := Try.zeroValue30
  t46 := Try.underlying52
  a46 := Try.isAgg52
  z46 := Try.sizeOf52
  v46 := Try.zeroValue52
  t51 := Try.underlying68
  a51 := Try.isAgg68
  z51 := Try.sizeOf68
  v51 := Try.zeroValue68
  t53 := Try.underlying70
  a53 := Try.isAgg70
  z53 := Try.sizeOf70
  v53 := Try.zeroValue70
  t131 := Try.underlying65
  a131 := Try.isAgg65
  z131 := Try.sizeOf65
  v131 := Try.zeroValue65
  t182 := Try.underlying59
  a182 := Try.isAgg59
  z182 := Try.sizeOf59
  v182 := Try.zeroValue59
  t183 := Try.underlying60
  a183 := Try.isAgg60
  z183 := Try.sizeOf60
  v183 := Try.zeroValue60
  t218 := Try.underlying73
  a218 := Try.isAgg73
  z218 := Try.sizeOf73
  v218 := Try.zeroValue73
  t222 := Try.underlying77
  a222 := Try.isAgg77
  z222 := Try.sizeOf77
  v222 := Try.zeroValue77
  t228 := Try.underlying79
  a228 := Try.isAgg79
  z228 := Try.sizeOf79
  v228 := Try.zeroValue79
  t229 := Try.underlying80
  a229 := Try.isAgg80
  z229 := Try.sizeOf80
  v229 := Try.zeroValue80 }
def Try.zCompactI_ren : Go.Shelf.Ren := ⟨fun | 20 => 17 | n => n, fun | 22 => 30 | 3 => 3 | 4 => 4 | 0 => 0 | n => n, fun | n => n⟩
theorem Try.zCompactI : Go.Proofs.Lays2.n20 Try.prog Try.zCompactI_ren := {
  mixed := by kernel_rfl
  f20 := Try.func17.trans (congrArg some (by kernel_rfl))
  t0 := Try.underlying0
  a0 := Try.isAgg0
  z0 := Try.sizeOf0
  v0 := Try.zeroValue0
  t3 := Try.underlying3
  a3 := Try.isAgg3
  z3 := Try.sizeOf3
  v3 := Try.zeroValue3
  t4 := Try.underlying4
  a4 := Try.isAgg4
  z4 := Try.sizeOf4
  v4 := Try.zeroValue4
  t22 := Try.underlying30
  a22 := Try.isAgg30
  z22 := Try.sizeOf30
  v22 := Try.zeroValue30
  i3 := by kernel_rfl }
end Go.Proofs
