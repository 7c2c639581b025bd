/-
  THE LAYING of one of the library's sorts at this seat's dump (numbers of the seat): printed by the kit's tool lay-plain.
-/
import Derived.Shelf.SlGeneric
import Derived.Shelf.SortM.Plain
import Derived.Ground.SlgmProg
import Derived.Test.YtgkeoenbcjfeaaaProg
namespace Go.Proofs
open Go.Shelf
def Try.sortS_ren : Go.Shelf.Ren := ⟨fun | 6 => 61 | 8 => 54 | 9 => 77 | 19 => 72 | 20 => 73 | 21 => 91 | 22 => 92 | 23 => 93 | 24 => 94 | 25 => 95 | 26 => 96 | 27 => 97 | 28 => 98 | 29 => 99 | 36 => 104 | 31 => 79 | 32 => 80 | 37 => 105 | 38 => 106 | 39 => 107 | 41 => 109 | n => n, fun | 27 => 85 | 29 => 9 | 3 => 3 | 32 => 96 | 26 => 85 | 0 => 0 | 44 => 113 | 46 => 26 | 4 => 4 | 36 => 105 | 35 => 104 | 41 => 110 | 5 => 5 | 9 => 9 | 53 => 119 | 57 => 122 | 63 => 135 | 64 => 136 | n => n, fun | n => n⟩
theorem Try.sortS : Go.Proofs.SlLaysM.n6 Try.prog Try.sortS_ren := {
  mixed := by kernel_rfl
  f6 := ⟨Try.f61.name, by decide, Try.func61.trans (congrArg some (by kernel_rfl))⟩
  f8 := Try.func54.trans (congrArg some (by kernel_rfl))
  f9 := ⟨Try.f77.name, by decide, Try.func77.trans (congrArg some (by kernel_rfl))⟩
  f19 := Try.func72.trans (congrArg some (by kernel_rfl))
  f20 := Try.func73.trans (congrArg some (by kernel_rfl))
  f21 := ⟨Try.f91.name, by decide, Try.func91.trans (congrArg some (by kernel_rfl))⟩
  f22 := ⟨Try.f92.name, by decide, Try.func92.trans (congrArg some (by kernel_rfl))⟩
  f23 := ⟨Try.f93.name, by decide, Try.func93.trans (congrArg some (by kernel_rfl))⟩
  f24 := ⟨Try.f94.name, by decide, Try.func94.trans (congrArg some (by kernel_rfl))⟩
  f25 := ⟨Try.f95.name, by decide, Try.func95.trans (congrArg some (by kernel_rfl))⟩
  f26 := ⟨Try.f96.name, by decide, Try.func96.trans (congrArg some (by kernel_rfl))⟩
  f27 := ⟨Try.f97.name, by decide, Try.func97.trans (congrArg some (by kernel_rfl))⟩
  f28 := ⟨Try.f98.name, by decide, Try.func98.trans (congrArg some (by kernel_rfl))⟩
  f29 := ⟨Try.f99.name, by decide, Try.func99.trans (congrArg some (by kernel_rfl))⟩
  f31 := Try.func79.trans (congrArg some (by kernel_rfl))
  f32 := Try.func80.trans (congrArg some (by kernel_rfl))
  f36 := ⟨Try.f104.name, by decide, Try.func104.trans (congrArg some (by kernel_rfl))⟩
  f37 := ⟨Try.f105.name, by decide, Try.func105.trans (congrArg some (by kernel_rfl))⟩
  f38 := ⟨Try.f106.name, by decide, Try.func106.trans (congrArg some (by kernel_rfl))⟩
  f39 := ⟨Try.f107.name, by decide, Try.func107.trans (congrArg some (by kernel_rfl))⟩
  f41 := ⟨Try.f109.name, by decide, Try.func109.trans (congrArg some (by kernel_rfl))⟩
  t0 := Try.underlying0
  a0 := Try.isAgg0
  z0 := Try.sizeOf0
  v0 := Try.zeroValue0
  t3 := Try.underlying3
  a3 := Try.isAgg3
  z3 := Try.sizeOf3
  v3 := Try.zeroValue3
  t4 := Try.underlying4
  a4 := Try.isAgg4
  z4 := Try.sizeOf4
  v4 := Try.zeroValue4
  t5 := Try.underlying5
  a5 := Try.isAgg5
  z5 := Try.sizeOf5
  v5 := Try.zeroValue5
  t9 := Try.underlying9
  a9 := Try.isAgg9
  z9 := Try.sizeOf9
  v9 := Try.zeroValue9
  t26 := Try.underlying85
  a26 := Try.isAgg85
  z26 := Try.sizeOf85
  v26 := Try.zeroValue85
  t27 := Try.underlying85
  a27 := Try.isAgg85
  z27 := Try.sizeOf85
  v27 := Try.zeroValue85
  t29 := Try.underlying9
  a29 := Try.isAgg9
  z29 := Try.sizeOf9
  v29 := Try.zeroValue9
  t32 := Try.underlying96
  a32 := Try.isAgg96
  z32 := Try.sizeOf96
  v32 := Try.zeroValue96
  t35 := Try.underlying104
  a35 := Try.isAgg104
  z35 := Try.sizeOf104
  v35 := Try.zeroValue104
  t36 := Try.underlying105
  a36 := Try.isAgg105
  z36 := Try.sizeOf105
  v36 := Try.zeroValue105
  t41 := Try.underlying110
  a41 := Try.isAgg110
  z41 := Try.sizeOf110
  v41 := Try.zeroValue110
  t44 := Try.underlying113
  a44 := Try.isAgg113
  z44 := Try.sizeOf113
  v44 := Try.zeroValue113
  t46 := Try.underlying26
  a46 := Try.isAgg26
  z46 := Try.sizeOf26
  v46 := Try.zeroValue26
  t53 := Try.underlying119
  a53 := Try.isAgg119
  z53 := Try.sizeOf119
  v53 := Try.zeroValue119
  t57 := Try.underlying122
  a57 := Try.isAgg122
  z57 := Try.sizeOf122
  v57 := Try.zeroValue122
  t63 := Try.underlying135
  a63 := Try.isAgg135
  z63 := Try.sizeOf135
  v63 := Try.zeroValue135
  t64 := Try.underlying136
  a64 := Try.isAgg136
  z64 := Try.sizeOf136
  v64 := Try.zeroValue136 }
end Go.Proofs
