/- The shelf's contracts laid at this seat, in plain words (written by the kit's lay-plain.mjs). -/
import Derived.Shelf.SlIterI.Sorted
import Derived.Ground.GgzProg
import Derived.Shelf.SlIterI.Collect
import Derived.Shelf.SlIterI.Nil
import Derived.Shelf.Sort.Plain
import Derived.Shelf.Slices.In.SortNone
import Derived.Ground.NamesProg
import Derived.Test.YtijpbgflkdjcdaaProg
namespace Go.Proofs
open Go.Shelf
def Try.zSortedI_ren : Go.Shelf.Ren := ⟨fun | 6 => 26 | 8 => 29 | 9 => 30 | 11 => 32 | 13 => 34 | 12 => 33 | 23 => 44 | 24 => 45 | 14 => 35 | 15 => 36 | 16 => 37 | 17 => 38 | 18 => 39 | 19 => 40 | 20 => 41 | 21 => 42 | 22 => 43 | 25 => 46 | 26 => 47 | 27 => 48 | 28 => 49 | 29 => 50 | 30 => 51 | 31 => 52 | n => n, fun | 26 => 3 | 28 => 65 | 24 => 24 | 0 => 0 | 3 => 3 | 37 => 72 | 48 => 83 | 50 => 85 | 4 => 4 | 40 => 75 | 39 => 74 | 45 => 80 | 5 => 5 | 9 => 9 | 51 => 86 | 55 => 90 | 57 => 92 | 58 => 31 | 33 => 58 | n => n, fun | n => n⟩
theorem Try.zSortedI : Go.Proofs.SlLaysZI.n6 Try.prog Try.zSortedI_ren := {
  mixed := by kernel_rfl
  f6 := ⟨Try.f26.name, by decide, Try.func26.trans (congrArg some (by kernel_rfl))⟩
  f8 := ⟨Try.f29.name, by decide, Try.func29.trans (congrArg some (by kernel_rfl))⟩
  f11 := ⟨Try.f32.name, by decide, Try.func32.trans (congrArg some (by kernel_rfl))⟩
  t0 := Try.underlying0
  a0 := Try.isAgg0
  z0 := Try.sizeOf0
  v0 := Try.zeroValue0
  t24 := Try.underlying24
  a24 := Try.isAgg24
  z24 := Try.sizeOf24
  v24 := Try.zeroValue24
  t26 := Try.underlying3
  a26 := Try.isAgg3
  z26 := Try.sizeOf3
  v26 := Try.zeroValue3
  t28 := Try.underlying65
  a28 := Try.isAgg65
  z28 := Try.sizeOf65
  v28 := Try.zeroValue65
  i26 := by kernel_rfl }
def Try.zKeysI_ren : Go.Shelf.Ren := ⟨fun | 10 => 31 | n => n, fun | 33 => 58 | 23 => 59 | 0 => 0 | 4 => 4 | 26 => 3 | 3 => 3 | n => n, fun | n => n⟩
theorem Try.zKeysI : Go.Proofs.SlLaysZI.n10 Try.prog Try.zKeysI_ren := {
  mixed := by kernel_rfl
  f10 := ⟨Try.f31.name, by decide, Try.func31.trans (congrArg some (by kernel_rfl))⟩
  t0 := Try.underlying0
  a0 := Try.isAgg0
  z0 := Try.sizeOf0
  v0 := Try.zeroValue0
  t4 := Try.underlying4
  a4 := Try.isAgg4
  z4 := Try.sizeOf4
  v4 := Try.zeroValue4
  t23 := Try.underlying59
  a23 := Try.isAgg59
  z23 := Try.sizeOf59
  v23 := Try.zeroValue59
  t26 := Try.underlying3
  a26 := Try.isAgg3
  z26 := Try.sizeOf3
  v26 := Try.zeroValue3
  t33 := Try.underlying58
  a33 := Try.isAgg58
  z33 := Try.sizeOf58
  v33 := Try.zeroValue58 }
def Try.zSortI_ren : Go.Shelf.Ren := ⟨fun | 189 => 30 | 125 => 34 | 257 => 33 | 128 => 44 | 129 => 45 | 294 => 35 | 295 => 36 | 296 => 37 | 297 => 38 | 298 => 39 | 299 => 40 | 216 => 41 | 300 => 42 | 301 => 43 | 328 => 46 | 329 => 47 | 330 => 48 | 331 => 49 | 332 => 50 | 215 => 51 | 343 => 52 | n => n, fun | 28 => 24 | 3 => 3 | 46 => 72 | 0 => 0 | 51 => 83 | 53 => 85 | 4 => 4 | 183 => 75 | 182 => 74 | 131 => 80 | 5 => 5 | 9 => 9 | 218 => 86 | 222 => 90 | 228 => 92 | 229 => 31 | n => n, fun | n => n⟩
theorem Try.zSortI : Go.Proofs.Lays.n189 Try.prog Try.zSortI_ren := {
  mixed := by kernel_rfl
  f125 := Try.func34.trans (congrArg some (by kernel_rfl))
  f128 := Try.func44.trans (congrArg some (by kernel_rfl))
  f129 := Try.func45.trans (congrArg some (by kernel_rfl))
  f189 := Try.func30.trans (congrArg some (by kernel_rfl))
  f215 := Try.func51.trans (congrArg some (by kernel_rfl))
  f216 := Try.func41.trans (congrArg some (by kernel_rfl))
  f257 := Try.func33.trans (congrArg some (by kernel_rfl))
  f294 := Try.func35.trans (congrArg some (by kernel_rfl))
  f295 := Try.func36.trans (congrArg some (by kernel_rfl))
  f296 := Try.func37.trans (congrArg some (by kernel_rfl))
  f297 := Try.func38.trans (congrArg some (by kernel_rfl))
  f298 := Try.func39.trans (congrArg some (by kernel_rfl))
  f299 := Try.func40.trans (congrArg some (by kernel_rfl))
  f300 := Try.func42.trans (congrArg some (by kernel_rfl))
  f301 := Try.func43.trans (congrArg some (by kernel_rfl))
  f328 := Try.func46.trans (congrArg some (by kernel_rfl))
  f329 := Try.func47.trans (congrArg some (by kernel_rfl))
  f330 := Try.func48.trans (congrArg some (by kernel_rfl))
  f331 := Try.func49.trans (congrArg some (by kernel_rfl))
  f332 := Try.func50.trans (congrArg some (by kernel_rfl))
  f343 := Try.func52.trans (congrArg some (by kernel_rfl))
  t0 := Try.underlying0
  a0 := Try.isAgg0
  z0 := Try.sizeOf0
  v0 := Try.zeroValue0
  t3 := Try.underlying3
  a3 := Try.isAgg3
  z3 := Try.sizeOf3
  v3 := Try.zeroValue3
  t4 := Try.underlying4
  a4 := Try.isAgg4
  z4 := Try.sizeOf4
  v4 := Try.zeroValue4
  t5 := Try.underlying5
  a5 := Try.isAgg5
  z5 := Try.sizeOf5
  v5 := Try.zeroValue5
  t9 := Try.underlying9
  a9 := Try.isAgg9
  z9 := Try.sizeOf9
  v9 := Try.zeroValue9
  t28 := Try.underlying24
  a28 := Try.isAgg24
  z28 := Try.sizeOf24
  v28 := Try.zeroValue24
  t46 := Try.underlying72
  a46 := Try.isAgg72
  z46 := Try.sizeOf72
  v46 := Try.zeroValue72
  t51 := Try.underlying83
  a51 := Try.isAgg83
  z51 := Try.sizeOf83
  v51 := Try.zeroValue83
  t53 := Try.underlying85
  a53 := Try.isAgg85
  z53 := Try.sizeOf85
  v53 := Try.zeroValue85
  t131 := Try.underlying80
  a131 := Try.isAgg80
  z131 := Try.sizeOf80
  v131 := Try.zeroValue80
  t182 := Try.underlying74
  a182 := Try.isAgg74
  z182 := Try.sizeOf74
  v182 := Try.zeroValue74
  t183 := Try.underlying75
  a183 := Try.isAgg75
  z183 := Try.sizeOf75
  v183 := Try.zeroValue75
  t218 := Try.underlying86
  a218 := Try.isAgg86
  z218 := Try.sizeOf86
  v218 := Try.zeroValue86
  t222 := Try.underlying90
  a222 := Try.isAgg90
  z222 := Try.sizeOf90
  v222 := Try.zeroValue90
  t228 := Try.underlying92
  a228 := Try.isAgg92
  z228 := Try.sizeOf92
  v228 := Try.zeroValue92
  t229 := Try.underlying31
  a229 := Try.isAgg31
  z229 := Try.sizeOf31
  v229 := Try.zeroValue31 }
end Go.Proofs
