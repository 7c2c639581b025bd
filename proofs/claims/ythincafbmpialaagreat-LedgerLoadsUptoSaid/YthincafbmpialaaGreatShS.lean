import Derived.Shelf.SlGeneric
import Derived.Shelf.SortM.Plain
import Derived.Ground.SlgmProg
import Derived.Test.YthincafbmpialaaGreatProg
set_option linter.unusedVariables false
set_option linter.unusedSectionVars false
set_option linter.unusedSimpArgs false
namespace Go.Proofs
open Go.Shelf
def Tryz.sortS_ren : Go.Shelf.Ren := ⟨fun | 6 => 115 | 8 => 128 | 9 => 135 | 19 => 150 | 20 => 80 | 21 => 156 | 22 => 157 | 23 => 158 | 24 => 159 | 25 => 160 | 26 => 161 | 27 => 162 | 28 => 163 | 29 => 164 | 36 => 187 | 31 => 183 | 32 => 184 | 37 => 188 | 38 => 189 | 39 => 190 | 41 => 198 | n => n, fun | 27 => 83 | 29 => 9 | 3 => 3 | 32 => 183 | 26 => 83 | 0 => 0 | 44 => 219 | 46 => 28 | 4 => 4 | 36 => 211 | 35 => 210 | 41 => 216 | 5 => 5 | 9 => 9 | 53 => 237 | 57 => 240 | 63 => 249 | 64 => 250 | n => n, fun | n => n⟩
theorem Tryz.sortS : Go.Proofs.SlLaysM.n6 Tryz.prog Tryz.sortS_ren := {
  mixed := by kernel_rfl
  f6 := ⟨Tryz.f115.name, by decide, Tryz.func115.trans (congrArg some (by kernel_rfl))⟩
  f8 := Tryz.func128.trans (congrArg some (by kernel_rfl))
  f9 := ⟨Tryz.f135.name, by decide, Tryz.func135.trans (congrArg some (by kernel_rfl))⟩
  f19 := Tryz.func150.trans (congrArg some (by kernel_rfl))
  f20 := Tryz.func80.trans (congrArg some (by kernel_rfl))
  f21 := ⟨Tryz.f156.name, by decide, Tryz.func156.trans (congrArg some (by kernel_rfl))⟩
  f22 := ⟨Tryz.f157.name, by decide, Tryz.func157.trans (congrArg some (by kernel_rfl))⟩
  f23 := ⟨Tryz.f158.name, by decide, Tryz.func158.trans (congrArg some (by kernel_rfl))⟩
  f24 := ⟨Tryz.f159.name, by decide, Tryz.func159.trans (congrArg some (by kernel_rfl))⟩
  f25 := ⟨Tryz.f160.name, by decide, Tryz.func160.trans (congrArg some (by kernel_rfl))⟩
  f26 := ⟨Tryz.f161.name, by decide, Tryz.func161.trans (congrArg some (by kernel_rfl))⟩
  f27 := ⟨Tryz.f162.name, by decide, Tryz.func162.trans (congrArg some (by kernel_rfl))⟩
  f28 := ⟨Tryz.f163.name, by decide, Tryz.func163.trans (congrArg some (by kernel_rfl))⟩
  f29 := ⟨Tryz.f164.name, by decide, Tryz.func164.trans (congrArg some (by kernel_rfl))⟩
  f31 := Tryz.func183.trans (congrArg some (by kernel_rfl))
  f32 := Tryz.func184.trans (congrArg some (by kernel_rfl))
  f36 := ⟨Tryz.f187.name, by decide, Tryz.func187.trans (congrArg some (by kernel_rfl))⟩
  f37 := ⟨Tryz.f188.name, by decide, Tryz.func188.trans (congrArg some (by kernel_rfl))⟩
  f38 := ⟨Tryz.f189.name, by decide, Tryz.func189.trans (congrArg some (by kernel_rfl))⟩
  f39 := ⟨Tryz.f190.name, by decide, Tryz.func190.trans (congrArg some (by kernel_rfl))⟩
  f41 := ⟨Tryz.f198.name, by decide, Tryz.func198.trans (congrArg some (by kernel_rfl))⟩
  t0 := Tryz.underlying0
  a0 := Tryz.isAgg0
  z0 := Tryz.sizeOf0
  v0 := Tryz.zeroValue0
  t3 := Tryz.underlying3
  a3 := Tryz.isAgg3
  z3 := Tryz.sizeOf3
  v3 := Tryz.zeroValue3
  t4 := Tryz.underlying4
  a4 := Tryz.isAgg4
  z4 := Tryz.sizeOf4
  v4 := Tryz.zeroValue4
  t5 := Tryz.underlying5
  a5 := Tryz.isAgg5
  z5 := Tryz.sizeOf5
  v5 := Tryz.zeroValue5
  t9 := Tryz.underlying9
  a9 := Tryz.isAgg9
  z9 := Tryz.sizeOf9
  v9 := Tryz.zeroValue9
  t26 := Tryz.underlying83
  a26 := Tryz.isAgg83
  z26 := Tryz.sizeOf83
  v26 := Tryz.zeroValue83
  t27 := Tryz.underlying83
  a27 := Tryz.isAgg83
  z27 := Tryz.sizeOf83
  v27 := Tryz.zeroValue83
  t29 := Tryz.underlying9
  a29 := Tryz.isAgg9
  z29 := Tryz.sizeOf9
  v29 := Tryz.zeroValue9
  t32 := Tryz.underlying183
  a32 := Tryz.isAgg183
  z32 := Tryz.sizeOf183
  v32 := Tryz.zeroValue183
  t35 := Tryz.underlying210
  a35 := Tryz.isAgg210
  z35 := Tryz.sizeOf210
  v35 := Tryz.zeroValue210
  t36 := Tryz.underlying211
  a36 := Tryz.isAgg211
  z36 := Tryz.sizeOf211
  v36 := Tryz.zeroValue211
  t41 := Tryz.underlying216
  a41 := Tryz.isAgg216
  z41 := Tryz.sizeOf216
  v41 := Tryz.zeroValue216
  t44 := Tryz.underlying219
  a44 := Tryz.isAgg219
  z44 := Tryz.sizeOf219
  v44 := Tryz.zeroValue219
  t46 := Tryz.underlying28
  a46 := Tryz.isAgg28
  z46 := Tryz.sizeOf28
  v46 := Tryz.zeroValue28
  t53 := Tryz.underlying237
  a53 := Tryz.isAgg237
  z53 := Tryz.sizeOf237
  v53 := Tryz.zeroValue237
  t57 := Tryz.underlying240
  a57 := Tryz.isAgg240
  z57 := Tryz.sizeOf240
  v57 := Tryz.zeroValue240
  t63 := Tryz.underlying249
  a63 := Tryz.isAgg249
  z63 := Tryz.sizeOf249
  v63 := Tryz.zeroValue249
  t64 := Tryz.underlying250
  a64 := Tryz.isAgg250
  z64 := Tryz.sizeOf250
  v64 := Tryz.zeroValue250 }
end Go.Proofs
