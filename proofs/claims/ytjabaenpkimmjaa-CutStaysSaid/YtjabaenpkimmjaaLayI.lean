/- The shelf's contracts laid at this seat, in plain words (written by the kit's lay-plain.mjs). -/
import Derived.Shelf.SlIterI.Sorted
import Derived.Ground.GgzProg
import Derived.Shelf.SlIterI.Collect
import Derived.Shelf.SlIterI.Nil
import Derived.Shelf.Sort.Plain
import Derived.Shelf.Slices.In.SortNone
import Derived.Ground.NamesProg
import Derived.Test.YtjabaenpkimmjaaProg
namespace Go.Proofs
open Go.Shelf
def Try.zSortedI_ren : Go.Shelf.Ren := ⟨fun | 6 => 21 | 8 => 24 | 9 => 25 | 11 => 27 | 13 => 29 | 12 => 28 | 23 => 39 | 24 => 40 | 14 => 30 | 15 => 31 | 16 => 32 | 17 => 33 | 18 => 34 | 19 => 35 | 20 => 36 | 21 => 37 | 22 => 38 | 25 => 41 | 26 => 42 | 27 => 43 | 28 => 44 | 29 => 45 | 30 => 46 | 31 => 47 | n => n, fun | 26 => 3 | 28 => 61 | 24 => 58 | 0 => 0 | 3 => 3 | 37 => 68 | 48 => 79 | 50 => 81 | 4 => 4 | 40 => 71 | 39 => 70 | 45 => 76 | 5 => 5 | 9 => 9 | 51 => 82 | 55 => 86 | 57 => 88 | 58 => 89 | 33 => 53 | n => n, fun | n => n⟩
theorem Try.zSortedI : Go.Proofs.SlLaysZI.n6 Try.prog Try.zSortedI_ren := {
  mixed := by kernel_rfl
  f6 := ⟨Try.f21.name, by decide, Try.func21.trans (congrArg some (by kernel_rfl))⟩
  f8 := ⟨Try.f24.name, by decide, Try.func24.trans (congrArg some (by kernel_rfl))⟩
  f11 := ⟨Try.f27.name, by decide, Try.func27.trans (congrArg some (by kernel_rfl))⟩
  t0 := Try.underlying0
  a0 := Try.isAgg0
  z0 := Try.sizeOf0
  v0 := Try.zeroValue0
  t24 := Try.underlying58
  a24 := Try.isAgg58
  z24 := Try.sizeOf58
  v24 := Try.zeroValue58
  t26 := Try.underlying3
  a26 := Try.isAgg3
  z26 := Try.sizeOf3
  v26 := Try.zeroValue3
  t28 := Try.underlying61
  a28 := Try.isAgg61
  z28 := Try.sizeOf61
  v28 := Try.zeroValue61
  i26 := by kernel_rfl }
def Try.zKeysI_ren : Go.Shelf.Ren := ⟨fun | 10 => 26 | n => n, fun | 33 => 53 | 23 => 54 | 0 => 0 | 4 => 4 | 26 => 3 | 3 => 3 | n => n, fun | n => n⟩
theorem Try.zKeysI : Go.Proofs.SlLaysZI.n10 Try.prog Try.zKeysI_ren := {
  mixed := by kernel_rfl
  f10 := ⟨Try.f26.name, by decide, Try.func26.trans (congrArg some (by kernel_rfl))⟩
  t0 := Try.underlying0
  a0 := Try.isAgg0
  z0 := Try.sizeOf0
  v0 := Try.zeroValue0
  t4 := Try.underlying4
  a4 := Try.isAgg4
  z4 := Try.sizeOf4
  v4 := Try.zeroValue4
  t23 := Try.underlying54
  a23 := Try.isAgg54
  z23 := Try.sizeOf54
  v23 := Try.zeroValue54
  t26 := Try.underlying3
  a26 := Try.isAgg3
  z26 := Try.sizeOf3
  v26 := Try.zeroValue3
  t33 := Try.underlying53
  a33 := Try.isAgg53
  z33 := Try.sizeOf53
  v33 := Try.zeroValue53 }
def Try.zSortI_ren : Go.Shelf.Ren := ⟨fun | 189 => 25 | 125 => 29 | 257 => 28 | 128 => 39 | 129 => 40 | 294 => 30 | 295 => 31 | 296 => 32 | 297 => 33 | 298 => 34 | 299 => 35 | 216 => 36 | 300 => 37 | 301 => 38 | 328 => 41 | 329 => 42 | 330 => 43 | 331 => 44 | 332 => 45 | 215 => 46 | 343 => 47 | n => n, fun | 28 => 58 | 3 => 3 | 46 => 68 | 0 => 0 | 51 => 79 | 53 => 81 | 4 => 4 | 183 => 71 | 182 => 70 | 131 => 76 | 5 => 5 | 9 => 9 | 218 => 82 | 222 => 86 | 228 => 88 | 229 => 89 | n => n, fun | n => n⟩
theorem Try.zSortI : Go.Proofs.Lays.n189 Try.prog Try.zSortI_ren := {
  mixed := by kernel_rfl
  f125 := Try.func29.trans (congrArg some (by kernel_rfl))
  f128 := Try.func39.trans (congrArg some (by kernel_rfl))
  f129 := Try.func40.trans (congrArg some (by kernel_rfl))
  f189 := Try.func25.trans (congrArg some (by kernel_rfl))
  f215 := Try.func46.trans (congrArg some (by kernel_rfl))
  f216 := Try.func36.trans (congrArg some (by kernel_rfl))
  f257 := Try.func28.trans (congrArg some (by kernel_rfl))
  f294 := Try.func30.trans (congrArg some (by kernel_rfl))
  f295 := Try.func31.trans (congrArg some (by kernel_rfl))
  f296 := Try.func32.trans (congrArg some (by kernel_rfl))
  f297 := Try.func33.trans (congrArg some (by kernel_rfl))
  f298 := Try.func34.trans (congrArg some (by kernel_rfl))
  f299 := Try.func35.trans (congrArg some (by kernel_rfl))
  f300 := Try.func37.trans (congrArg some (by kernel_rfl))
  f301 := Try.func38.trans (congrArg some (by kernel_rfl))
  f328 := Try.func41.trans (congrArg some (by kernel_rfl))
  f329 := Try.func42.trans (congrArg some (by kernel_rfl))
  f330 := Try.func43.trans (congrArg some (by kernel_rfl))
  f331 := Try.func44.trans (congrArg some (by kernel_rfl))
  f332 := Try.func45.trans (congrArg some (by kernel_rfl))
  f343 := Try.func47.trans (congrArg some (by kernel_rfl))
  t0 := Try.underlying0
  a0 := Try.isAgg0
  z0 := Try.sizeOf0
  v0 := Try.zeroValue0
  t3 := Try.underlying3
  a3 := Try.isAgg3
  z3 := Try.sizeOf3
  v3 := Try.zeroValue3
  t4 := Try.underlying4
  a4 := Try.isAgg4
  z4 := Try.sizeOf4
  v4 := Try.zeroValue4
  t5 := Try.underlying5
  a5 := Try.isAgg5
  z5 := Try.sizeOf5
  v5 := Try.zeroValue5
  t9 := Try.underlying9
  a9 := Try.isAgg9
  z9 := Try.sizeOf9
  v9 := Try.zeroValue9
  t28 := Try.underlying58
  a28 := Try.isAgg58
  z28 := Try.sizeOf58
  v28 := Try.zeroValue58
  t46 := Try.underlying68
  a46 := Try.isAgg68
  z46 := Try.sizeOf68
  v46 := Try.zeroValue68
  t51 := Try.underlying79
  a51 := Try.isAgg79
  z51 := Try.sizeOf79
  v51 := Try.zeroValue79
  t53 := Try.underlying81
  a53 := Try.isAgg81
  z53 := Try.sizeOf81
  v53 := Try.zeroValue81
  t131 := Try.underlying76
  a131 := Try.isAgg76
  z131 := Try.sizeOf76
  v131 := Try.zeroValue76
  t182 := Try.underlying70
  a182 := Try.isAgg70
  z182 := Try.sizeOf70
  v182 := Try.zeroValue70
  t183 := Try.underlying71
  a183 := Try.isAgg71
  z183 := Try.sizeOf71
  v183 := Try.zeroValue71
  t218 := Try.underlying82
  a218 := Try.isAgg82
  z218 := Try.sizeOf82
  v218 := Try.zeroValue82
  t222 := Try.underlying86
  a222 := Try.isAgg86
  z222 := Try.sizeOf86
  v222 := Try.zeroValue86
  t228 := Try.underlying88
  a228 := Try.isAgg88
  z228 := Try.sizeOf88
  v228 := Try.zeroValue88
  t229 := Try.underlying89
  a229 := Try.isAgg89
  z229 := Try.sizeOf89
  v229 := Try.zeroValue89 }
end Go.Proofs
