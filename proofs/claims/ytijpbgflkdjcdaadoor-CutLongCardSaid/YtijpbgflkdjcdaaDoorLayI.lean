/- The shelf's contracts laid at this seat, in plain words (written by the kit's lay-plain.mjs). -/
import Derived.Shelf.SlIterI.Sorted
import Derived.Ground.GgzProg
import Derived.Shelf.SlIterI.Collect
import Derived.Shelf.SlIterI.Nil
import Derived.Shelf.Sort.Plain
import Derived.Shelf.Slices.In.SortNone
import Derived.Ground.NamesProg
import Derived.Test.YtijpbgflkdjcdaaDoorProg
namespace Go.Proofs
open Go.Shelf
def Tryd.zSortedI_ren : Go.Shelf.Ren := ⟨fun | 6 => 41 | 8 => 46 | 9 => 47 | 11 => 49 | 13 => 51 | 12 => 50 | 23 => 61 | 24 => 62 | 14 => 52 | 15 => 53 | 16 => 54 | 17 => 55 | 18 => 56 | 19 => 57 | 20 => 58 | 21 => 59 | 22 => 60 | 25 => 63 | 26 => 64 | 27 => 65 | 28 => 66 | 29 => 67 | 30 => 68 | 31 => 69 | n => n, fun | 26 => 3 | 28 => 89 | 24 => 86 | 0 => 0 | 3 => 3 | 37 => 112 | 48 => 122 | 50 => 124 | 4 => 4 | 40 => 115 | 39 => 114 | 45 => 119 | 5 => 5 | 9 => 9 | 51 => 125 | 55 => 129 | 57 => 131 | 58 => 35 | 33 => 66 | n => n, fun | n => n⟩
theorem Tryd.zSortedI : Go.Proofs.SlLaysZI.n6 Tryd.prog Tryd.zSortedI_ren := {
  mixed := by kernel_rfl
  f6 := ⟨Tryd.f41.name, by decide, Tryd.func41.trans (congrArg some (by kernel_rfl))⟩
  f8 := ⟨Tryd.f46.name, by decide, Tryd.func46.trans (congrArg some (by kernel_rfl))⟩
  f11 := ⟨Tryd.f49.name, by decide, Tryd.func49.trans (congrArg some (by kernel_rfl))⟩
  t0 := Tryd.underlying0
  a0 := Tryd.isAgg0
  z0 := Tryd.sizeOf0
  v0 := Tryd.zeroValue0
  t24 := Tryd.underlying86
  a24 := Tryd.isAgg86
  z24 := Tryd.sizeOf86
  v24 := Tryd.zeroValue86
  t26 := Tryd.underlying3
  a26 := Tryd.isAgg3
  z26 := Tryd.sizeOf3
  v26 := Tryd.zeroValue3
  t28 := Tryd.underlying89
  a28 := Tryd.isAgg89
  z28 := Tryd.sizeOf89
  v28 := Tryd.zeroValue89
  i26 := by kernel_rfl }
def Tryd.zKeysI_ren : Go.Shelf.Ren := ⟨fun | 10 => 48 | n => n, fun | 33 => 66 | 23 => 67 | 0 => 0 | 4 => 4 | 26 => 3 | 3 => 3 | n => n, fun | n => n⟩
theorem Tryd.zKeysI : Go.Proofs.SlLaysZI.n10 Tryd.prog Tryd.zKeysI_ren := {
  mixed := by kernel_rfl
  f10 := ⟨Tryd.f48.name, by decide, Tryd.func48.trans (congrArg some (by kernel_rfl))⟩
  t0 := Tryd.underlying0
  a0 := Tryd.isAgg0
  z0 := Tryd.sizeOf0
  v0 := Tryd.zeroValue0
  t4 := Tryd.underlying4
  a4 := Tryd.isAgg4
  z4 := Tryd.sizeOf4
  v4 := Tryd.zeroValue4
  t23 := Tryd.underlying67
  a23 := Tryd.isAgg67
  z23 := Tryd.sizeOf67
  v23 := Tryd.zeroValue67
  t26 := Tryd.underlying3
  a26 := Tryd.isAgg3
  z26 := Tryd.sizeOf3
  v26 := Tryd.zeroValue3
  t33 := Tryd.underlying66
  a33 := Tryd.isAgg66
  z33 := Tryd.sizeOf66
  v33 := Tryd.zeroValue66 }
def Tryd.zSortI_ren : Go.Shelf.Ren := ⟨fun | 189 => 47 | 125 => 51 | 257 => 50 | 128 => 61 | 129 => 62 | 294 => 52 | 295 => 53 | 296 => 54 | 297 => 55 | 298 => 56 | 299 => 57 | 216 => 58 | 300 => 59 | 301 => 60 | 328 => 63 | 329 => 64 | 330 => 65 | 331 => 66 | 332 => 67 | 215 => 68 | 343 => 69 | n => n, fun | 28 => 86 | 3 => 3 | 46 => 112 | 0 => 0 | 51 => 122 | 53 => 124 | 4 => 4 | 183 => 115 | 182 => 114 | 131 => 119 | 5 => 5 | 9 => 9 | 218 => 125 | 222 => 129 | 228 => 131 | 229 => 35 | n => n, fun | n => n⟩
theorem Tryd.zSortI : Go.Proofs.Lays.n189 Tryd.prog Tryd.zSortI_ren := {
  mixed := by kernel_rfl
  f125 := Tryd.func51.trans (congrArg some (by kernel_rfl))
  f128 := Tryd.func61.trans (congrArg some (by kernel_rfl))
  f129 := Tryd.func62.trans (congrArg some (by kernel_rfl))
  f189 := Tryd.func47.trans (congrArg some (by kernel_rfl))
  f215 := Tryd.func68.trans (congrArg some (by kernel_rfl))
  f216 := Tryd.func58.trans (congrArg some (by kernel_rfl))
  f257 := Tryd.func50.trans (congrArg some (by kernel_rfl))
  f294 := Tryd.func52.trans (congrArg some (by kernel_rfl))
  f295 := Tryd.func53.trans (congrArg some (by kernel_rfl))
  f296 := Tryd.func54.trans (congrArg some (by kernel_rfl))
  f297 := Tryd.func55.trans (congrArg some (by kernel_rfl))
  f298 := Tryd.func56.trans (congrArg some (by kernel_rfl))
  f299 := Tryd.func57.trans (congrArg some (by kernel_rfl))
  f300 := Tryd.func59.trans (congrArg some (by kernel_rfl))
  f301 := Tryd.func60.trans (congrArg some (by kernel_rfl))
  f328 := Tryd.func63.trans (congrArg some (by kernel_rfl))
  f329 := Tryd.func64.trans (congrArg some (by kernel_rfl))
  f330 := Tryd.func65.trans (congrArg some (by kernel_rfl))
  f331 := Tryd.func66.trans (congrArg some (by kernel_rfl))
  f332 := Tryd.func67.trans (congrArg some (by kernel_rfl))
  f343 := Tryd.func69.trans (congrArg some (by kernel_rfl))
  t0 := Tryd.underlying0
  a0 := Tryd.isAgg0
  z0 := Tryd.sizeOf0
  v0 := Tryd.zeroValue0
  t3 := Tryd.underlying3
  a3 := Tryd.isAgg3
  z3 := Tryd.sizeOf3
  v3 := Tryd.zeroValue3
  t4 := Tryd.underlying4
  a4 := Tryd.isAgg4
  z4 := Tryd.sizeOf4
  v4 := Tryd.zeroValue4
  t5 := Tryd.underlying5
  a5 := Tryd.isAgg5
  z5 := Tryd.sizeOf5
  v5 := Tryd.zeroValue5
  t9 := Tryd.underlying9
  a9 := Tryd.isAgg9
  z9 := Tryd.sizeOf9
  v9 := Tryd.zeroValue9
  t28 := Tryd.underlying86
  a28 := Tryd.isAgg86
  z28 := Tryd.sizeOf86
  v28 := Tryd.zeroValue86
  t46 := Tryd.underlying112
  a46 := Tryd.isAgg112
  z46 := Tryd.sizeOf112
  v46 := Tryd.zeroValue112
  t51 := Tryd.underlying122
  a51 := Tryd.isAgg122
  z51 := Tryd.sizeOf122
  v51 := Tryd.zeroValue122
  t53 := Tryd.underlying124
  a53 := Tryd.isAgg124
  z53 := Tryd.sizeOf124
  v53 := Tryd.zeroValue124
  t131 := Tryd.underlying119
  a131 := Tryd.isAgg119
  z131 := Tryd.sizeOf119
  v131 := Tryd.zeroValue119
  t182 := Tryd.underlying114
  a182 := Tryd.isAgg114
  z182 := Tryd.sizeOf114
  v182 := Tryd.zeroValue114
  t183 := Tryd.underlying115
  a183 := Tryd.isAgg115
  z183 := Tryd.sizeOf115
  v183 := Tryd.zeroValue115
  t218 := Tryd.underlying125
  a218 := Tryd.isAgg125
  z218 := Tryd.sizeOf125
  v218 := Tryd.zeroValue125
  t222 := Tryd.underlying129
  a222 := Tryd.isAgg129
  z222 := Tryd.sizeOf129
  v222 := Tryd.zeroValue129
  t228 := Tryd.underlying131
  a228 := Tryd.isAgg131
  z228 := Tryd.sizeOf131
  v228 := Tryd.zeroValue131
  t229 := Tryd.underlying35
  a229 := Tryd.isAgg35
  z229 := Tryd.sizeOf35
  v229 := Tryd.zeroValue35 }
end Go.Proofs
