/-
  THE LAYING of one of the library's sorts at this seat's dump (numbers of the seat): printed by the kit's tool lay-plain.
-/
import Derived.Shelf.SlGeneric
import Derived.Shelf.SortM.Plain
import Derived.Ground.SlgmProg
import Derived.Test.YtgkeoenbcjfeaaaGreatProg
namespace Go.Proofs
open Go.Shelf
def Tryz.sortS_ren : Go.Shelf.Ren := ⟨fun | 6 => 48 | 8 => 58 | 9 => 60 | 19 => 72 | 20 => 73 | 21 => 74 | 22 => 75 | 23 => 76 | 24 => 77 | 25 => 78 | 26 => 79 | 27 => 80 | 28 => 81 | 29 => 82 | 36 => 96 | 31 => 92 | 32 => 93 | 37 => 97 | 38 => 98 | 39 => 99 | 41 => 104 | n => n, fun | 27 => 67 | 29 => 9 | 3 => 3 | 32 => 96 | 26 => 67 | 0 => 0 | 44 => 112 | 46 => 26 | 4 => 4 | 36 => 104 | 35 => 103 | 41 => 109 | 5 => 5 | 9 => 9 | 53 => 125 | 57 => 128 | 63 => 134 | 64 => 135 | n => n, fun | n => n⟩
theorem Tryz.sortS : Go.Proofs.SlLaysM.n6 Tryz.prog Tryz.sortS_ren := {
  mixed := by kernel_rfl
  f6 := ⟨Tryz.f48.name, by decide, Tryz.func48.trans (congrArg some (by kernel_rfl))⟩
  f8 := Tryz.func58.trans (congrArg some (by kernel_rfl))
  f9 := ⟨Tryz.f60.name, by decide, Tryz.func60.trans (congrArg some (by kernel_rfl))⟩
  f19 := Tryz.func72.trans (congrArg some (by kernel_rfl))
  f20 := Tryz.func73.trans (congrArg some (by kernel_rfl))
  f21 := ⟨Tryz.f74.name, by decide, Tryz.func74.trans (congrArg some (by kernel_rfl))⟩
  f22 := ⟨Tryz.f75.name, by decide, Tryz.func75.trans (congrArg some (by kernel_rfl))⟩
  f23 := ⟨Tryz.f76.name, by decide, Tryz.func76.trans (congrArg some (by kernel_rfl))⟩
  f24 := ⟨Tryz.f77.name, by decide, Tryz.func77.trans (congrArg some (by kernel_rfl))⟩
  f25 := ⟨Tryz.f78.name, by decide, Tryz.func78.trans (congrArg some (by kernel_rfl))⟩
  f26 := ⟨Tryz.f79.name, by decide, Tryz.func79.trans (congrArg some (by kernel_rfl))⟩
  f27 := ⟨Tryz.f80.name, by decide, Tryz.func80.trans (congrArg some (by kernel_rfl))⟩
  f28 := ⟨Tryz.f81.name, by decide, Tryz.func81.trans (congrArg some (by kernel_rfl))⟩
  f29 := ⟨Tryz.f82.name, by decide, Tryz.func82.trans (congrArg some (by kernel_rfl))⟩
  f31 := Tryz.func92.trans (congrArg some (by kernel_rfl))
  f32 := Tryz.func93.trans (congrArg some (by kernel_rfl))
  f36 := ⟨Tryz.f96.name, by decide, Tryz.func96.trans (congrArg some (by kernel_rfl))⟩
  f37 := ⟨Tryz.f97.name, by decide, Tryz.func97.trans (congrArg some (by kernel_rfl))⟩
  f38 := ⟨Tryz.f98.name, by decide, Tryz.func98.trans (congrArg some (by kernel_rfl))⟩
  f39 := ⟨Tryz.f99.name, by decide, Tryz.func99.trans (congrArg some (by kernel_rfl))⟩
  f41 := ⟨Tryz.f104.name, by decide, Tryz.func104.trans (congrArg some (by kernel_rfl))⟩
  t0 := Tryz.underlying0
  a0 := Tryz.isAgg0
  z0 := Tryz.sizeOf0
  v0 := Tryz.zeroValue0
  t3 := Tryz.underlying3
  a3 := Tryz.isAgg3
  z3 := Tryz.sizeOf3
  v3 := Tryz.zeroValue3
  t4 := Tryz.underlying4
  a4 := Tryz.isAgg4
  z4 := Tryz.sizeOf4
  v4 := Tryz.zeroValue4
  t5 := Tryz.underlying5
  a5 := Tryz.isAgg5
  z5 := Tryz.sizeOf5
  v5 := Tryz.zeroValue5
  t9 := Tryz.underlying9
  a9 := Tryz.isAgg9
  z9 := Tryz.sizeOf9
  v9 := Tryz.zeroValue9
  t26 := Tryz.underlying67
  a26 := Tryz.isAgg67
  z26 := Tryz.sizeOf67
  v26 := Tryz.zeroValue67
  t27 := Tryz.underlying67
  a27 := Tryz.isAgg67
  z27 := Tryz.sizeOf67
  v27 := Tryz.zeroValue67
  t29 := Tryz.underlying9
  a29 := Tryz.isAgg9
  z29 := Tryz.sizeOf9
  v29 := Tryz.zeroValue9
  t32 := Tryz.underlying96
  a32 := Tryz.isAgg96
  z32 := Tryz.sizeOf96
  v32 := Tryz.zeroValue96
  t35 := Tryz.underlying103
  a35 := Tryz.isAgg103
  z35 := Tryz.sizeOf103
  v35 := Tryz.zeroValue103
  t36 := Tryz.underlying104
  a36 := Tryz.isAgg104
  z36 := Tryz.sizeOf104
  v36 := Tryz.zeroValue104
  t41 := Tryz.underlying109
  a41 := Tryz.isAgg109
  z41 := Tryz.sizeOf109
  v41 := Tryz.zeroValue109
  t44 := Tryz.underlying112
  a44 := Tryz.isAgg112
  z44 := Tryz.sizeOf112
  v44 := Tryz.zeroValue112
  t46 := Tryz.underlying26
  a46 := Tryz.isAgg26
  z46 := Tryz.sizeOf26
  v46 := Tryz.zeroValue26
  t53 := Tryz.underlying125
  a53 := Tryz.isAgg125
  z53 := Tryz.sizeOf125
  v53 := Tryz.zeroValue125
  t57 := Tryz.underlying128
  a57 := Tryz.isAgg128
  z57 := Tryz.sizeOf128
  v57 := Tryz.zeroValue128
  t63 := Tryz.underlying134
  a63 := Tryz.isAgg134
  z63 := Tryz.sizeOf134
  v63 := Tryz.zeroValue134
  t64 := Tryz.underlying135
  a64 := Tryz.isAgg135
  z64 := Tryz.sizeOf135
  v64 := Tryz.zeroValue135 }
end Go.Proofs
