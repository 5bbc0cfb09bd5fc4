/-
  What the library's functions are, at this program: the numbers of slices.Sort and slices.IndexFunc in it.
-/
import Derived.Shelf.SlGeneric
import Derived.Shelf.Sort.Plain
import Derived.Shelf.Slices.In.SortNone
import Derived.Ground.NamesProg
import Derived.Ground.SlgfProg
import Derived.Shelf.SlicesQ.IndexFunc
import Derived.Test.YthdoanbadhfhjaaProg
namespace Go.Proofs
open Go.Shelf
def Try.lays189_ren : Go.Shelf.Ren := ⟨fun | 189 => 31 | 125 => 41 | 257 => 40 | 128 => 55 | 129 => 56 | 294 => 46 | 295 => 47 | 296 => 48 | 297 => 49 | 298 => 50 | 299 => 51 | 216 => 52 | 300 => 53 | 301 => 54 | 328 => 59 | 329 => 60 | 330 => 61 | 331 => 62 | 332 => 63 | 215 => 58 | 343 => 65 | n => n, fun | 28 => 23 | 3 => 3 | 46 => 59 | 0 => 0 | 51 => 73 | 53 => 75 | 4 => 4 | 183 => 65 | 182 => 64 | 131 => 70 | 5 => 5 | 9 => 9 | 218 => 77 | 222 => 81 | 228 => 83 | 229 => 84 | n => n, fun | n => n⟩
theorem Try.lays189 : Go.Proofs.Lays.n189 Try.prog Try.lays189_ren := {
  mixed := by kernel_rfl
  f125 := Try.func41.trans (congrArg some (by kernel_rfl))
  f128 := Try.func55.trans (congrArg some (by kernel_rfl))
  f129 := Try.func56.trans (congrArg some (by kernel_rfl))
  f189 := Try.func31.trans (congrArg some (by kernel_rfl))
  f215 := Try.func58.trans (congrArg some (by kernel_rfl))
  f216 := Try.func52.trans (congrArg some (by kernel_rfl))
  f257 := Try.func40.trans (congrArg some (by kernel_rfl))
  f294 := Try.func46.trans (congrArg some (by kernel_rfl))
  f295 := Try.func47.trans (congrArg some (by kernel_rfl))
  f296 := Try.func48.trans (congrArg some (by kernel_rfl))
  f297 := Try.func49.trans (congrArg some (by kernel_rfl))
  f298 := Try.func50.trans (congrArg some (by kernel_rfl))
  f299 := Try.func51.trans (congrArg some (by kernel_rfl))
  f300 := Try.func53.trans (congrArg some (by kernel_rfl))
  f301 := Try.func54.trans (congrArg some (by kernel_rfl))
  f328 := Try.func59.trans (congrArg some (by kernel_rfl))
  f329 := Try.func60.trans (congrArg some (by kernel_rfl))
  f330 := Try.func61.trans (congrArg some (by kernel_rfl))
  f331 := Try.func62.trans (congrArg some (by kernel_rfl))
  f332 := Try.func63.trans (congrArg some (by kernel_rfl))
  f343 := Try.func65.trans (congrArg some (by kernel_rfl))
  t0 := Try.underlying0
  a0 := Try.isAgg0
  z0 := Try.sizeOf0
  v0 := Try.zeroValue0
  t3 := Try.underlying3
  a3 := Try.isAgg3
  z3 := Try.sizeOf3
  v3 := Try.zeroValue3
  t4 := Try.underlying4
  a4 := Try.isAgg4
  z4 := Try.sizeOf4
  v4 := Try.zeroValue4
  t5 := Try.underlying5
  a5 := Try.isAgg5
  z5 := Try.sizeOf5
  v5 := Try.zeroValue5
  t9 := Try.underlying9
  a9 := Try.isAgg9
  z9 := Try.sizeOf9
  v9 := Try.zeroValue9
  t28 := Try.underlying23
  a28 := Try.isAgg23
  z28 := Try.sizeOf23
  v28 := Try.zeroValue23
  t46 := Try.underlying59
  a46 := Try.isAgg59
  z46 := Try.sizeOf59
  v46 := Try.zeroValue59
  t51 := Try.underlying73
  a51 := Try.isAgg73
  z51 := Try.sizeOf73
  v51 := Try.zeroValue73
  t53 := Try.underlying75
  a53 := Try.isAgg75
  z53 := Try.sizeOf75
  v53 := Try.zeroValue75
  t131 := Try.underlying70
  a131 := Try.isAgg70
  z131 := Try.sizeOf70
  v131 := Try.zeroValue70
  t182 := Try.underlying64
  a182 := Try.isAgg64
  z182 := Try.sizeOf64
  v182 := Try.zeroValue64
  t183 := Try.underlying65
  a183 := Try.isAgg65
  z183 := Try.sizeOf65
  v183 := Try.zeroValue65
  t218 := Try.underlying77
  a218 := Try.isAgg77
  z218 := Try.sizeOf77
  v218 := Try.zeroValue77
  t222 := Try.underlying81
  a222 := Try.isAgg81
  z222 := Try.sizeOf81
  v222 := Try.zeroValue81
  t228 := Try.underlying83
  a228 := Try.isAgg83
  z228 := Try.sizeOf83
  v228 := Try.zeroValue83
  t229 := Try.underlying84
  a229 := Try.isAgg84
  z229 := Try.sizeOf84
  v229 := Try.zeroValue84 }
def Try.laysIdx38_ren : Go.Shelf.Ren := ⟨fun | 6 => 38 | n => n, fun | 22 => 27 | 23 => 36 | 25 => 56 | 3 => 3 | 0 => 0 | 4 => 4 | n => n, fun | n => n⟩
theorem Try.laysIdx38 : Go.Proofs.SlLaysH0.n6 Try.prog Try.laysIdx38_ren := {
  mixed := by kernel_rfl
  f6 := ⟨Try.f38.name, by decide, Try.func38.trans (congrArg some (by kernel_rfl))⟩
  t0 := Try.underlying0
  a0 := Try.isAgg0
  z0 := Try.sizeOf0
  v0 := Try.zeroValue0
  t3 := Try.underlying3
  a3 := Try.isAgg3
  z3 := Try.sizeOf3
  v3 := Try.zeroValue3
  t4 := Try.underlying4
  a4 := Try.isAgg4
  z4 := Try.sizeOf4
  v4 := Try.zeroValue4
  t22 := Try.underlying27
  a22 := Try.isAgg27
  z22 := Try.sizeOf27
  v22 := Try.zeroValue27
  t25 := Try.underlying56
  a25 := Try.isAgg56
  z25 := Try.sizeOf56
  v25 := Try.zeroValue56 }
end Go.Proofs
